/- Contracts of this program, and what they tell in plain Lean. -/
import Derived.Test.YtemmgalfdmnkoaaGreatDoorLC
import Derived.Test.YtemmgalfdmnkoaaGreatDoorLD
namespace Go.Proofs.YtemmgalfdmnkoaaGreatDoor
set_option linter.unusedSimpArgs false
set_option linter.unusedVariables false
set_option linter.unnecessarySimpa false
set_option linter.defProp false
noncomputable section
def yU (v0 v1 v2:AV):Tm:=(.nd 1 (.lf 0 v0) (.nd 2 (.lf 1 v1) (.lf 2 v2)))
def adD (mx:Int):K:=kAt [] (kOf (CL mx) 54)
section
set_option maxRecDepth 100000
variable (mx:Int) (run:Run) (lp:Lp) (κn:Kt) (κx:Ex→Kt) (h:AH) (v0 v1 v2:AV)
theorem ahb:kc (CL mx) run lp (adD mx) ⟨yU v0 v1 v2,h⟩ κn κx=fQ 86 v0 h (fun a0 h=>cU h (.cells [.int 9223372036854775807 0,.int 9223372036854775807 0] 33) (fun a1 h=>ao a0 h (fun a2 h=>aM a2 h (fun a3 h=>aj 14 a3 h (fun a4 h=>aP (fun a5 h=>ao a0 h (fun a6 h=>aM a6 h (fun a7 h=>aj 4 a7 h (fun a8 h=>(fun a9 h=>aP (fun a10 h=>ao a0 h (fun a11 h=>aM a11 h (fun a12 h=>aj 12 a12 h (fun a13 h=>aF 2 a13 h (fun a14 h=>ay 2 a1 a14 h (fun a15 h=>κx .ret ⟨yU v0 a0 a1,h⟩)))))) (aH (CL mx) run 85 [a8,a9] h)) (.fn 86 [] [a0]) h)))) (aH (CL mx) run 84 [a4,(.int 9223372036854775807 1)] h)))))):=by kernel_rfl
theorem ab2:kcE (CL mx) [.cell 2 32] ⟨yU v0 v1 v2,h⟩=aF 2 v2 h (fun r0 _=>some (.vh r0 h)):=(bW _ _ _).trans (by kernel_rfl)
theorem as3:dz (CL mx) 54=some ⟨adD mx,[0,1,2],16,[.cell 2 32]⟩:=by kernel_rfl
end
theorem alc (mx:Int) (run:Run) (lp:Lp) (x0:AV) (h:AH):dk (CL mx) run lp 54 [x0] h=vhO (kc (CL mx) run lp (adD mx) ⟨yU x0 .bot .bot,h⟩ (kcE (CL mx) [.cell 2 32]) (kcQ (CL mx) [.cell 2 32])):=(bV (by kernel_rfl) (as3 mx) (by kernel_rfl)).trans (by kernel_rfl)
def av7:=Du @ahb (@ab2)
def abZ (v0 v1 w:AV):Tm:=(.nd 1 (.lf 0 v0) (.nd 8 (.lf 1 v1) (.lf 8 w)))
def akF (mx:Int):K:=kAt [] (kOf (CL mx) 85)
section
set_option maxRecDepth 100000
variable (mx:Int) (run:Run) (lp:Lp) (κn:Kt) (κx:Ex→Kt) (h:AH) (v0 v1 w:AV)
theorem aoC:kc (CL mx) run lp (akF mx) ⟨abZ v0 v1 w,h⟩ κn κx=aM v0 h (fun a0 h=>aj 0 a0 h (fun a1 h=>aP (fun a2 h=>oE a2 h (fun a3 h=>bJ a3 (aP (fun a4 h=>κn ⟨abZ v0 v1 a3,h⟩) (aH (CL mx) run 132 [v0,v1] h)) (κn ⟨abZ v0 v1 a3,h⟩))) (aH (CL mx) run 131 [a1] h))):=by kernel_rfl
theorem arv:kcE (CL mx) [] ⟨abZ v0 v1 w,h⟩=some (.vh (.tup []) h):=(bW _ _ _).trans (by kernel_rfl)
theorem auM:dz (CL mx) 85=some ⟨akF mx,[0,1,8],12,[]⟩:=by kernel_rfl
end
theorem asj (mx:Int) (run:Run) (lp:Lp) (x0 x1:AV) (h:AH):dk (CL mx) run lp 85 [x0,x1] h=vhO (kc (CL mx) run lp (akF mx) ⟨abZ x0 x1 .bot,h⟩ (kcE (CL mx) []) (kcQ (CL mx) [])):=(bV (by kernel_rfl) (auM mx) (by kernel_rfl)).trans (by kernel_rfl)
def atu:=Du @aoC (@arv)
def zp (v0 v1 k:AV):Tm:=(.nd 1 (.lf 0 v0) (.nd 4 (.lf 1 v1) (.lf 4 k)))
def ael (mx:Int):K:=kAt [] (kOf (CL mx) 84)
section
set_option maxRecDepth 100000
variable (mx:Int) (run:Run) (lp:Lp) (κn:Kt) (κx:Ex→Kt) (h:AH) (v0 v1 k:AV)
theorem aiX:kc (CL mx) run lp (ael mx) ⟨zp v0 v1 k,h⟩ κn κx=aM v0 h (fun a0 h=>aj 0 a0 h (fun a1 h=>aP (fun a2 h=>κx .ret ⟨zp v0 v1 a2,h⟩) (aH (CL mx) run 130 [a1,v1] h))):=by kernel_rfl
theorem ami:kcE (CL mx) [.tmp 4] ⟨zp v0 v1 k,h⟩=some (.vh k h):=(bW _ _ _).trans (by kernel_rfl)
theorem asf:dz (CL mx) 84=some ⟨ael mx,[0,1,4],10,[.tmp 4]⟩:=by kernel_rfl
end
theorem alq (mx:Int) (run:Run) (lp:Lp) (x0 x1:AV) (h:AH):dk (CL mx) run lp 84 [x0,x1] h=vhO (kc (CL mx) run lp (ael mx) ⟨zp x0 x1 .bot,h⟩ (kcE (CL mx) [.tmp 4]) (kcQ (CL mx) [.tmp 4])):=(bV (by kernel_rfl) (asf mx) (by kernel_rfl)).trans (by kernel_rfl)
def auO:=Du @aiX (@ami)
def y7 (v0 v1 k:AV):Tm:=(.nd 1 (.lf 0 v0) (.nd 4 (.lf 1 v1) (.lf 4 k)))
def ad7 (mx:Int):K:=kAt [] (kOf (CL mx) 139)
section
set_option maxRecDepth 100000
variable (mx:Int) (run:Run) (lp:Lp) (κn:Kt) (κx:Ex→Kt) (h:AH) (v0 v1 k:AV)
theorem aih:kc (CL mx) run lp (ad7 mx) ⟨y7 v0 v1 k,h⟩ κn κx=aM v0 h (fun a0 h=>aj 0 a0 h (fun a1 h=>aP (fun a2 h=>κx .ret ⟨y7 v0 v1 a2,h⟩) (aH (CL mx) run 204 [a1,v1] h))):=by kernel_rfl
theorem al6:kcE (CL mx) [.tmp 4] ⟨y7 v0 v1 k,h⟩=some (.vh k h):=(bW _ _ _).trans (by kernel_rfl)
theorem arI:dz (CL mx) 139=some ⟨ad7 mx,[0,1,4],10,[.tmp 4]⟩:=by kernel_rfl
end
theorem anK (mx:Int) (run:Run) (lp:Lp) (x0 x1:AV) (h:AH):dk (CL mx) run lp 139 [x0,x1] h=vhO (kc (CL mx) run lp (ad7 mx) ⟨y7 x0 x1 .bot,h⟩ (kcE (CL mx) [.tmp 4]) (kcQ (CL mx) [.tmp 4])):=(bV (by kernel_rfl) (arI mx) (by kernel_rfl)).trans (by kernel_rfl)
def au5:=Du @aih (@al6)
def aeZ (v0 v2:AV):Tm:=(.nd 2 (.lf 0 v0) (.lf 2 v2))
def am1 (mx:Int):K:=kAt [] (kOf (CL mx) 131)
section
set_option maxRecDepth 100000
variable (mx:Int) (run:Run) (lp:Lp) (κn:Kt) (κx:Ex→Kt) (h:AH) (v0 v2:AV)
theorem aoL:kc (CL mx) run lp (am1 mx) ⟨aeZ v0 v2,h⟩ κn κx=aM v0 h (fun a0 h=>aj 0 a0 h (fun a1 h=>aP (fun a2 h=>cmp ine a2 (.int 4294967295 0) h (fun a3 h=>κx .ret ⟨aeZ v0 a3,h⟩)) (aH (CL mx) run 178 [a1] h))):=by kernel_rfl
theorem aqZ:kcE (CL mx) [.tmp 2] ⟨aeZ v0 v2,h⟩=some (.vh v2 h):=(bW _ _ _).trans (by kernel_rfl)
theorem awm:dz (CL mx) 131=some ⟨am1 mx,[0,2],8,[.tmp 2]⟩:=by kernel_rfl
end
theorem aqK (mx:Int) (run:Run) (lp:Lp) (x0:AV) (h:AH):dk (CL mx) run lp 131 [x0] h=vhO (kc (CL mx) run lp (am1 mx) ⟨aeZ x0 .bot,h⟩ (kcE (CL mx) [.tmp 2]) (kcQ (CL mx) [.tmp 2])):=(bV (by kernel_rfl) (awm mx) (by kernel_rfl)).trans (by kernel_rfl)
def axD:=Du @aoL (@aqZ)
def uX (v0 v1 v2 u v7 l:AV):Tm:=(.nd 3 (.nd 1 (.lf 0 v0) (.nd 2 (.lf 1 v1) (.lf 2 v2))) (.nd 7 (.lf 3 u) (.nd 26 (.lf 7 v7) (.lf 26 l))))
def ach (mx:Int):K:=kAt [] (kOf (CL mx) 90)
section
set_option maxRecDepth 100000
variable (mx:Int) (run:Run) (lp:Lp) (κn:Kt) (κx:Ex→Kt) (h:AH) (v0 v1 v2 u v7 l:AV)
theorem aiC:kc (CL mx) run lp (ach mx) ⟨uX v0 v1 v2 u v7 l,h⟩ κn κx=fQ 33 u h (fun a0 h=>aM v0 h (fun a1 h=>aj 0 a1 h (fun a2 h=>aP (fun a3 h=>aM v0 h (fun a4 h=>aj 2 a4 h (fun a5 h=>cvI 18446744073709551615 v1 h (fun a6 h=>aP (fun a7 h=>aM v0 h (fun a8 h=>aj 3 a8 h (fun a9 h=>cvI 18446744073709551615 v2 h (fun a10 h=>aP (fun a11 h=>aj 0 a0 h (fun a12 h=>ao a12 h (fun a13 h=>cmp ine a13 (.int 9223372036854775807 0) h (fun a14 h=>bJ a14 (aM v0 h (fun a15 h=>aj 1 a15 h (fun a16 h=>aP (fun a17 h=>κn ⟨uX v0 v1 v2 u a0 a14,h⟩) (aH (CL mx) run 139 [a16,(.int 18446744073709551615 1)] h)))) (κn ⟨uX v0 v1 v2 u a0 a14,h⟩))))) (aH (CL mx) run 139 [a9,a10] h))))) (aH (CL mx) run 139 [a5,a6] h))))) (aH (CL mx) run 139 [a2,(.int 18446744073709551615 1)] h)))):=by kernel_rfl
theorem amg:kcE (CL mx) [] ⟨uX v0 v1 v2 u v7 l,h⟩=some (.vh (.tup []) h):=(bW _ _ _).trans (by kernel_rfl)
theorem aqh:dz (CL mx) 90=some ⟨ach mx,[0,1,2,3,7,26],31,[]⟩:=by kernel_rfl
end
theorem ao8 (mx:Int) (run:Run) (lp:Lp) (x0 x1 x2 x3:AV) (h:AH):dk (CL mx) run lp 90 [x0,x1,x2,x3] h=vhO (kc (CL mx) run lp (ach mx) ⟨uX x0 x1 x2 x3 .bot .bot,h⟩ (kcE (CL mx) []) (kcQ (CL mx) [])):=(bV (by kernel_rfl) (aqh mx) (by kernel_rfl)).trans (by kernel_rfl)
def rO:=Du @aiC (@amg)
def itL (c0 c1 c2 c3 c5 c6 cp wp c9 c10 c11 c15:AV) (a s f b t p:Int):List AV:=[c0,c1,c2,c3,.int 4294967295 1,c5,c6,cp,wp,c9,c10,c11,.int 9223372036854775807 0,.int 9223372036854775807 0,.int 9223372036854775807 a,c15,.int 18446744073709551615 s,.int 18446744073709551615 f,.int 18446744073709551615 b,.int 18446744073709551615 t,.int 18446744073709551615 p]
end
def It (h:AH) (i:Nat) (cp wp:AV):Prop:=∃c0 c1 c2 c3 c5 c6 c9 c10 c11 c15 a s f b t p y,ab h i=some (.cells (itL c0 c1 c2 c3 c5 c6 cp wp c9 c10 c11 c15 a s f b t p) y)
def Fx (i0:Nat) (h h':AH):Prop:=h.length≤h'.length∧ ∀i,i<h.length→i≠i0→ab h' i=ab h i
section
variable {mx:Int} {h h' h2:AH} {i0:Nat} {cp wp:AV}
theorem Fx.rfl:Fx i0 h h:=⟨A9 _,fun _ _ _=>(by rfl)⟩
theorem Fx.trans (a:Fx i0 h h') (b:Fx i0 h' h2):Fx i0 h h2:=⟨Bo a.1 b.1,fun i hi hn=>(b.2 i (Bm hi a.1) hn).trans (a.2 i hi hn)⟩
theorem Fx.app (x:AH):Fx i0 h (h++x):=⟨by simp,fun i hi _=>ak hi x⟩
theorem Fx.set (x:Option Blk):Fx i0 h (h.set i0 x):=⟨by simp,fun i hi hn=>ae (Ne.symm hn) _⟩
theorem Fx.an9 {j:Nat} (hj:h.length≤j) (a:Fx i0 h h') (x:Option Blk):Fx i0 h (h'.set j x):=⟨by rw [Bb];exact a.1,fun i hi hn=>by rw [ae (by omega)];exact a.2 i hi hn⟩
theorem It.lt (I:It h i0 cp wp):i0<h.length:=by
 obtain ⟨c0,c1,c2,c3,c5,c6,c9,c10,c11,c15,a,s,f,b,t,p,y,e⟩:=I;exact aJ e
theorem It.of (I:It h i0 cp wp) (e:ab h' i0=ab h i0):It h' i0 cp wp:=by
 obtain ⟨c0,c1,c2,c3,c5,c6,c9,c10,c11,c15,a,s,f,b,t,p,y,h1⟩:=I;exact ⟨c0,c1,c2,c3,c5,c6,c9,c10,c11,c15,a,s,f,b,t,p,y,by rw [e];exact h1⟩
theorem It.app (I:It h i0 cp wp) (x:AH):It (h++x) i0 cp wp:=I.of (ak I.lt x)
theorem abC {m:Nat} {b o y:Nat} {cs:List AV} {n:Int} (hb:ab h b=some (.cells cs y)) (hc:cs[o]? =some (.int m n)) (x:Int):nH m [.pto b o,.int m x] h=some (.int m (aQ m (cg n x)),h.set b (some (.cells (cs.set o (.int m (aQ m (cg n x)))) y))):=by
 show fN h b o (fun c s=>mM m c fun z=>mM m (.int m x) fun n=>some (.int m (aQ m (cg z n)),s (.int m (aQ m (cg z n)))))=_;unfold fN;simp only [hb];rw [bI,hc,aT];show bq (Nat.beq m m) (bq (Nat.beq m m) (some (AV.int m (aQ m (cg n x)),bH (some (Blk.cells (bH (.int m (aQ m (cg n x))) cs o) y)) h b)) none) none=_;rw [Bs,bqT,bqT,cK,cK]
theorem ah2 {b o y:Nat} {cs:List AV} {n:Int} (hb:ab h b=some (.cells cs y)) (hc:cs[o]? =some (.int 9223372036854775807 n)) (x:Int) (f:Nat):aL (fun r h'=>∃n',r= .int 9223372036854775807 n'∧h'=h.set b (some (.cells (cs.set o (.int 9223372036854775807 n')) y))) ((rl (CL mx) (f+1)).run 84 [.pto b o,.int 9223372036854775807 x] h):=by
 refine aL.runs (n:=f) (alq mx _ _ _ _ _) ?_;have e:=(rh (C:=CL mx) (run:=(rl (CL mx) f).run) (f:=130) (args:=[.pto b o,.int 9223372036854775807 x]) (h:=h) (g:=nH 9223372036854775807) (by kernel_rfl)).trans (abC hb hc x);simp only [sy,A7,seval,auO,e];exact Ends.mk ⟨_,rfl,rfl⟩
theorem ou {b o y:Nat} {cs:List AV} {n:Int} (hb:ab h b=some (.cells cs y)) (hc:cs[o]? =some (.int 18446744073709551615 n)) (x:Int) (f:Nat):aL (fun r h'=>∃n',r= .int 18446744073709551615 n'∧h'=h.set b (some (.cells (cs.set o (.int 18446744073709551615 n')) y))) ((rl (CL mx) (f+1)).run 139 [.pto b o,.int 18446744073709551615 x] h):=by
 refine aL.runs (n:=f) (anK mx _ _ _ _ _) ?_;have e:=(rh (C:=CL mx) (run:=(rl (CL mx) f).run) (f:=204) (args:=[.pto b o,.int 18446744073709551615 x]) (h:=h) (g:=nH 18446744073709551615) (by kernel_rfl)).trans (abC hb hc x);simp only [sy,A7,seval,au5,e];exact Ends.mk ⟨_,rfl,rfl⟩
theorem ag9 (I:It h i0 cp wp) (a b c d:Int) (f:Nat):aL (fun r h'=>It h' i0 cp wp∧Fx i0 h h') ((rl (CL mx) (f+2)).run 90 [.pto i0 16,.int 9223372036854775807 a,.int 9223372036854775807 b,.agg [.int 9223372036854775807 c,.int 9223372036854775807 d]] h):=by
 refine aL.runs (n:=f+1) (ao8 mx _ _ _ _ _ _ _) ?_;obtain ⟨c0,c1,c2,c3,c5,c6,c9,c10,c11,c15,q,s,ff,bb,t,p,y,hi⟩:=I;have lt:=aJ hi;simp only [sy,A7,seval,rO,dK,show (AV.agg [.int 9223372036854775807 c,.int 9223372036854775807 d]).nb=true from rfl,show (AV.agg [AV.int 9223372036854775807 c,.int 9223372036854775807 d]).cells=[.int 9223372036854775807 c,.int 9223372036854775807 d] from rfl];obtain ⟨X,hX⟩: ∃X:Blk,X=Blk.cells [.int 9223372036854775807 c,.int 9223372036854775807 d] (32+1):=⟨_,rfl⟩;rw [show Blk.cells [AV.int 9223372036854775807 c,.int 9223372036854775807 d] (32+1)=X from hX.symm];have e0:ab (h++[some X]) i0=some (.cells (itL c0 c1 c2 c3 c5 c6 cp wp c9 c10 c11 c15 q s ff bb t p) y):=by rw [ak lt];exact hi
 have x0:ab (h++[some X]) h.length=some X:=aD _ _;refine cy (ou (mx:=mx) e0 (o:=16) rfl 1 f).call ?_;rintro r h1 ⟨n1,rfl,rfl⟩;have e1:ab ((h++[some X]).set i0 (some (.cells (itL c0 c1 c2 c3 c5 c6 cp wp c9 c10 c11 c15 q n1 ff bb t p) y))) i0=_:=aq (by rw [A7];omega) _;have u1:(itL c0 c1 c2 c3 c5 c6 cp wp c9 c10 c11 c15 q s ff bb t p).set 16 (.int 18446744073709551615 n1)=itL c0 c1 c2 c3 c5 c6 cp wp c9 c10 c11 c15 q n1 ff bb t p:=rfl;simp only [sy,A7,seval,rO,u1];refine cy (ou (mx:=mx) e1 (o:=18) rfl _ f).call ?_;rintro r h2 ⟨n2,rfl,rfl⟩;have u2:(itL c0 c1 c2 c3 c5 c6 cp wp c9 c10 c11 c15 q n1 ff bb t p).set 18 (.int 18446744073709551615 n2)=itL c0 c1 c2 c3 c5 c6 cp wp c9 c10 c11 c15 q n1 ff n2 t p:=rfl;simp only [sy,A7,seval,rO,u2,Dp];have e2:ab ((h++[some X]).set i0 (some (.cells (itL c0 c1 c2 c3 c5 c6 cp wp c9 c10 c11 c15 q n1 ff n2 t p) y))) i0=_:=aq (by rw [A7];omega) _;refine cy (ou (mx:=mx) e2 (o:=19) rfl _ f).call ?_;rintro r h3 ⟨n3,rfl,rfl⟩;have u3:(itL c0 c1 c2 c3 c5 c6 cp wp c9 c10 c11 c15 q n1 ff n2 t p).set 19 (.int 18446744073709551615 n3)=itL c0 c1 c2 c3 c5 c6 cp wp c9 c10 c11 c15 q n1 ff n2 n3 p:=rfl;have e3:ab ((h++[some X]).set i0 (some (.cells (itL c0 c1 c2 c3 c5 c6 cp wp c9 c10 c11 c15 q n1 ff n2 n3 p) y))) i0=_:=aq (by rw [A7];omega) _;have x3:ab ((h++[some X]).set i0 (some (.cells (itL c0 c1 c2 c3 c5 c6 cp wp c9 c10 c11 c15 q n1 ff n2 n3 p) y))) h.length=some X:=by rw [ae (by omega)];exact x0
 have fx: ∀B,Fx i0 h ((h++[some X]).set i0 B):=fun B=>(Fx.app _).trans (Fx.set B)
 subst hX
 by_cases hc:c=0
 ·have g:decide (c≠0)=false:=by rw [decide_eq_false_iff_not];exact fun cc=>cc hc
  simp only [sy,A7,seval,rO,u3,Dp,x3,g];exact Ends.mk ⟨⟨_,_,_,_,_,_,_,_,_,_,_,_,_,_,_,_,_,e3⟩,fx _⟩
 ·have g:decide (c≠0)=true:=by rw [decide_eq_true_iff];exact hc
  simp only [sy,A7,seval,rO,u3,Dp,x3,g];refine cy (ou (mx:=mx) e3 (o:=17) rfl _ f).call ?_;rintro r h4 ⟨n4,rfl,rfl⟩;have u4:(itL c0 c1 c2 c3 c5 c6 cp wp c9 c10 c11 c15 q n1 ff n2 n3 p).set 17 (.int 18446744073709551615 n4)=itL c0 c1 c2 c3 c5 c6 cp wp c9 c10 c11 c15 q n1 n4 n2 n3 p:=rfl;simp only [sy,A7,seval,rO,u4,Dp];exact Ends.mk ⟨⟨_,_,_,_,_,_,_,_,_,_,_,_,_,_,_,_,_,aq (by rw [A7];omega) _⟩,fx _⟩
theorem ag5 {b o y:Nat} {cs:List AV} (hb:ab h b=some (.cells cs y)) (hc:cs[o]? =some (.int 4294967295 1)) (f:Nat):aL (fun r h'=>r= .bool true∧h'=h) ((rl (CL mx) (f+1)).run 131 [.pto b o] h):=by
 refine aL.runs (n:=f) (aqK mx _ _ _ _) ?_;have e1:pP 4294967295 [.pto b o] h=some (.int 4294967295 1,h):=by
  show fN h b o (fun c _=>mM 4294967295 c fun n=>some (.int 4294967295 n,h))=_;unfold fN;simp only [hb];rw [bI,hc,aT];rfl
 have e:=(rh (C:=CL mx) (run:=(rl (CL mx) f).run) (f:=178) (args:=[.pto b o]) (h:=h) (g:=pP 4294967295) (by kernel_rfl)).trans e1;simp only [sy,A7,seval,axD,e];exact Ends.mk ⟨rfl,rfl⟩
theorem akS {b o y:Nat} {cs:List AV} (hb:ab h b=some (.cells cs y)) (hc:cs[o]? =some (.int 4294967295 1)) (v:AV) (f:Nat):aL (fun r h'=>r= .tup []∧h'=h) ((rl (CL mx) (f+2)).run 85 [.pto b o,v] h):=by
 refine aL.runs (n:=f+1) (asj mx _ _ _ _ _) ?_;simp only [sy,A7,seval,atu];refine cy (ag5 (mx:=mx) hb hc f).call ?_;rintro r h' ⟨rfl,rfl⟩;simp only [sy,A7,seval,atu];exact Ends.mk ⟨rfl,rfl⟩
theorem ai5 (I:It h i0 cp wp) (f:Nat):aL (fun r h'=>r= .agg [N64 0,N64 0]∧It h' i0 cp wp∧Fx i0 h h') ((rl (CL mx) (f+3)).run 54 [.pto i0 0] h):=by
 refine aL.runs (n:=f+2) (alc mx _ _ _ _) ?_;obtain ⟨c0,c1,c2,c3,c5,c6,c9,c10,c11,c15,q,s,ff,bb,t,p,y,hi⟩:=I;have lt:=aJ hi;obtain ⟨X,hX⟩: ∃X:Blk,X=Blk.cells [.pto i0 0] (85+1):=⟨_,rfl⟩;obtain ⟨Y,hY⟩: ∃Y:Blk,Y=Blk.cells [.int 9223372036854775807 0,.int 9223372036854775807 0] (32+1):=⟨_,rfl⟩;have lx:(h++[some X]).length=h.length+1:=by simp
 obtain ⟨H,hH⟩: ∃H,H=h++[some X]++[some Y]:=⟨_,rfl⟩;have lH:H.length=h.length+2:=by rw [hH];simp
 have x0:ab H h.length=some X:=by rw [hH,ak (by simp),aD]
 have y0:ab H (h.length+1)=some Y:=by
  have:=aD (h++[some X]) (some Y)
  rw [lx] at this;rw [hH];exact this
 have e0:ab H i0=some (.cells (itL c0 c1 c2 c3 c5 c6 cp wp c9 c10 c11 c15 q s ff bb t p) y):=by rw [hH,ak (by simp;omega),ak lt];exact hi
 have F0:Fx i0 h H:=by rw [hH];exact (Fx.app _).trans (Fx.app _)
 have sx:=hX;have sy':=hY;simp only [Nat.reduceAdd] at sx sy';simp only [sy,A7,seval,av7,dK,show (AV.pto i0 0).nb=true from rfl,show (AV.pto i0 0).cells=[.pto i0 0] from rfl,←sx,←sy',←hH,lx,x0];simp only [sy,A7,seval,hX];refine cy (ah2 (mx:=mx) e0 (o:=14) rfl 1 (f+1)).call ?_;rintro r h1 ⟨n1,rfl,rfl⟩;have u1:(itL c0 c1 c2 c3 c5 c6 cp wp c9 c10 c11 c15 q s ff bb t p).set 14 (.int 9223372036854775807 n1)=itL c0 c1 c2 c3 c5 c6 cp wp c9 c10 c11 c15 n1 s ff bb t p:=rfl;obtain ⟨H1,hH1⟩: ∃H1,H1=H.set i0 (some (.cells (itL c0 c1 c2 c3 c5 c6 cp wp c9 c10 c11 c15 n1 s ff bb t p) y)):=⟨_,rfl⟩;have e1:ab H1 i0=some (.cells (itL c0 c1 c2 c3 c5 c6 cp wp c9 c10 c11 c15 n1 s ff bb t p) y):=by rw [hH1];exact aq (by omega) _
 have x1:ab H1 h.length=some X:=by rw [hH1,ae (by omega)];exact x0
 have y1:ab H1 (h.length+1)=some Y:=by rw [hH1,ae (by omega)];exact y0
 have F1:Fx i0 h H1:=by rw [hH1];exact F0.trans (Fx.set _)
 rw [hX] at x1;rw [u1,←hH1];simp only [sy,A7,seval,x1];refine cy (akS (mx:=mx) e1 (o:=4) rfl _ f).call ?_;rintro r h' ⟨rfl,hh⟩;rw [hh];clear hh h';rw [hY] at y1;have l1: ∀κ:Ka,aF 2 (.pto i0 12) H1 κ=κ (.agg [N64 0,N64 0]) H1:=fun κ=>by rw [jJ,e1,aT];rfl
 have hl:h.length+1<H1.length:=by rw [hH1,Bb];omega
 have s1: ∀κ:Ka,ay 2 (.pto (h.length+1) 0) (.agg [N64 0,N64 0]) H1 κ=κ (.tup []) (H1.set (h.length+1) (some (.cells [N64 0,N64 0] (32+1)))):=fun κ=>bB y1 rfl rfl rfl κ
 have l2:=aq (h:=H1) hl (some (.cells [N64 0,N64 0] (32+1)));simp only [Nat.reduceAdd] at s1 l2;simp only [sy,A7,seval,x1,l1,s1,ab2,l2];refine Ends.mk ⟨rfl,?_,F1.an9 (by omega) _⟩;exact ⟨_,_,_,_,_,_,_,_,_,_,_,_,_,_,_,_,_,by rw [ae (by omega)];exact e1⟩
end
noncomputable section
def j8 (v0 v1 v2 z v7 m v9 v10 v11 o:AV):Tm:=(.nd 8 (.nd 2 (.nd 1 (.lf 0 v0) (.lf 1 v1)) (.nd 3 (.lf 2 v2) (.nd 7 (.lf 3 z) (.lf 7 v7)))) (.nd 10 (.nd 9 (.lf 8 m) (.lf 9 v9)) (.nd 11 (.lf 10 v10) (.nd 12 (.lf 11 v11) (.lf 12 o)))))
def adC (mx:Int):K:=kAt [] (kOf (CL mx) 55)
def apL (mx:Int):K:=kAt [1,1,1,0] (kOf (CL mx) 55)
def akt (mx:Int):K:=kAt [1,1,1,1] (kOf (CL mx) 55)
section
set_option maxRecDepth 100000
variable (mx:Int) (run:Run) (lp:Lp) (κn:Kt) (κx:Ex→Kt) (h:AH) (v0 v1 v2 z v7 m v9 v10 v11 o:AV)
theorem aiT:kc (CL mx) run lp (adC mx) ⟨j8 v0 v1 v2 z v7 m v9 v10 v11 o,h⟩ κn κx=fQ 39 z h (fun a0 h=>cU h (.cells [.int 18446744073709551615 0,.bool false,.aa,.aa] 68) (fun a1 h=>cU h (.cells [.int 9223372036854775807 0,.int 9223372036854775807 0] 33) (fun a2 h=>aF 3 a0 h (fun a3 h=>aP (fun a4 h=>fu 0 a4 h (fun a5 h=>fu 1 a4 h (fun a6 h=>fu 2 a4 h (fun a7 h=>cU h (.cells [.int 18446744073709551615 0,.bool false,.aa,.aa] 68) (fun a8 h=>cU h (.cells [.int 9223372036854775807 0,.int 9223372036854775807 0] 33) (fun a9 h=>ay 4 a8 a5 h (fun a10 h=>ay 2 a9 a7 h (fun a11 h=>bG v2 h (fun a12 h=>aF 2 a9 h (fun a13 h=>aP (fun a14 h=>kc (CL mx) run lp (apL mx) ⟨j8 v0 v1 v2 z a0 a1 a2 a8 a6 a9,h⟩ (fun s=>kc (CL mx) run lp (akt mx) s κn κx) κx) (aH (CL mx) run 90 [v0,a12,a6,a13] h))))))))))) (aH (CL mx) run 89 [v1,v2,a3] h))))):=by kernel_rfl
theorem ai0:kc (CL mx) run lp (apL mx) ⟨j8 v0 v1 v2 z v7 m v9 v10 v11 o,h⟩ κn κx=kcR κn κx (dr (sRd [] h (aF 4 v10 h kVH) fun r0=>sRd [r0.v] r0.h' (aF 2 o r0.h' kVH) fun r1=>sEf [r1.v,r0.v] r1.h' (ay 4 m r0.v r1.h' kVH) fun r2=>sEf [r2.v,r1.v,r0.v] r2.h' (ay 2 v9 r1.v r2.h' kVH) fun r3=>bq (and (aG r1 (OK.f (.mk (o1 (aF 2) (.tr 12))) (CL mx) run r1.σ (j8 v0 v1 v2 z v7 m v9 v10 v11 o) (aN (ag r1.h) r2.h') kVH)) (true)) (some (.st (j8 v0 v1 v2 z v7 m v9 v10 v11 o) r3.h')) none)):=(eW (C:=CL mx) [1,1,1,0] 55 [0,1,2,3,7,8,9,10,11,12] (by kernel_rfl) _ _ _).trans (by kernel_rfl)
theorem ajk:kc (CL mx) run lp (akt mx) ⟨j8 v0 v1 v2 z v7 m v9 v10 v11 o,h⟩ κn κx=κx .ret ⟨j8 v0 v1 v2 z v7 m v9 v10 v11 o,h⟩:=by kernel_rfl
theorem aaf:bc (j8 v0 v1 v2 z v7 m v9 v10 v11 o) 12=o:=(rfl)
theorem aj5:kcE (CL mx) [.cell 8 67,.cell 9 32] ⟨j8 v0 v1 v2 z v7 m v9 v10 v11 o,h⟩=aF 4 m h (fun r0 _=>aF 2 v9 h (fun r1 _=>some (.vh (.tup [r0,r1]) h))):=(bW _ _ _).trans (by kernel_rfl)
theorem ass:dz (CL mx) 55=some ⟨adC mx,[0,1,2,3,7,8,9,10,11,12],29,[.cell 8 67,.cell 9 32]⟩:=by kernel_rfl
end
theorem alZ (mx:Int) (run:Run) (lp:Lp) (x0 x1 x2 x3:AV) (h:AH):dk (CL mx) run lp 55 [x0,x1,x2,x3] h=vhO (kc (CL mx) run lp (adC mx) ⟨j8 x0 x1 x2 x3 .bot .bot .bot .bot .bot .bot,h⟩ (kcE (CL mx) [.cell 8 67,.cell 9 32]) (kcQ (CL mx) [.cell 8 67,.cell 9 32])):=(bV (by kernel_rfl) (ass mx) (by kernel_rfl)).trans (by kernel_rfl)
def gK (v0 v1 v2 v5 w v7 m u:AV):Tm:=(.nd 6 (.nd 2 (.nd 1 (.lf 0 v0) (.lf 1 v1)) (.nd 5 (.lf 2 v2) (.lf 5 v5))) (.nd 8 (.nd 7 (.lf 6 w) (.lf 7 v7)) (.nd 13 (.lf 8 m) (.lf 13 u))))
def acE (mx:Int):K:=kAt [] (kOf (CL mx) 26)
def aos (mx:Int):K:=kAt [1,0] (kOf (CL mx) 26)
def an0 (mx:Int):K:=kAt [1,1] (kOf (CL mx) 26)
def avp (mx:Int):K:=kAt [1,0,1,1,0,0] (kOf (CL mx) 26)
def avO (mx:Int):K:=kAt [1,0,1,1,0,1] (kOf (CL mx) 26)
def aoN (mx:Int):K:=kAt [1,1,0] (kOf (CL mx) 26)
def alO (mx:Int):K:=kAt [1,1,1] (kOf (CL mx) 26)
section
set_option maxRecDepth 100000
variable (mx:Int) (run:Run) (lp:Lp) (κn:Kt) (κx:Ex→Kt) (h:AH) (v0 v1 v2 v5 w v7 m u:AV)
theorem ai9:kc (CL mx) run lp (acE mx) ⟨gK v0 v1 v2 v5 w v7 m u,h⟩ κn κx=fQ 39 v2 h (fun a0 h=>cU h (.cells [.int 18446744073709551615 0,.bool false,.aa,.aa] 68) (fun a1 h=>cU h (.cells [.int 9223372036854775807 0,.int 9223372036854775807 0] 33) (fun a2 h=>kc (CL mx) run lp (aos mx) ⟨gK v0 v1 v2 a0 a1 a2 m u,h⟩ (fun s=>kc (CL mx) run lp (an0 mx) s κn κx) κx))):=by kernel_rfl
theorem agY:kc (CL mx) run lp (aos mx) ⟨gK v0 v1 v2 v5 w v7 m u,h⟩ κn κx=aP (fun a0 h=>cU h (.cells [.int 9223372036854775807 0,.int 9223372036854775807 0] 33) (fun a1 h=>ay 2 a1 a0 h (fun a2 h=>aj 0 a1 h (fun a3 h=>ao a3 h (fun a4 h=>cmp ine a4 (.int 9223372036854775807 0) h (fun a5 h=>bJ a5 (kc (CL mx) run lp (avp mx) ⟨gK v0 v1 v2 v5 w v7 a1 a5,h⟩ (fun s=>kc (CL mx) run lp (avO mx) s κn κx) κx) (κn ⟨gK v0 v1 v2 v5 w v7 a1 a5,h⟩))))))) (aH (CL mx) run 54 [v0] h):=by kernel_rfl
theorem aiI:kc (CL mx) run lp (an0 mx) ⟨gK v0 v1 v2 v5 w v7 m u,h⟩ κn κx=kc (CL mx) run lp (aoN mx) ⟨gK v0 v1 v2 v5 w v7 m u,h⟩ (fun s=>kc (CL mx) run lp (alO mx) s κn κx) κx:=by kernel_rfl
theorem ahd:kc (CL mx) run lp (aoN mx) ⟨gK v0 v1 v2 v5 w v7 m u,h⟩ κn κx=aM v0 h (fun a0 h=>aj 16 a0 h (fun a1 h=>aM v0 h (fun a2 h=>aj 7 a2 h (fun a3 h=>ao a3 h (fun a4 h=>aF 3 v5 h (fun a5 h=>aP (fun a6 h1=>bq (Nat.ble (ag h) (ag h1)) ((fun h=>fu 0 a6 h (fun a7 h=>fu 1 a6 h (fun a8 h=>ay 4 w a7 h (fun a9 h1=>bq (Nat.ble (ag h) (ag h1)) ((fun h=>ay 2 v7 a8 h (fun a10 h1=>bq (Nat.ble (ag h) (ag h1)) ((fun h=>κn ⟨gK v0 v1 v2 v5 w v7 m u,h⟩) h1) none)) h1) none)))) h1) none) (aH (CL mx) run 55 [a1,a4,v1,a5] h))))))):=(cA (C:=CL mx) (ops:=opsOf (cAt [1,1,0] (bS (CL mx) 26))) (ps:=[0,1,2,5,6,7,8,13]) (by kernel_rfl) (by kernel_rfl) _ _ _).trans (by kernel_rfl)
theorem ahV:kc (CL mx) run lp (alO mx) ⟨gK v0 v1 v2 v5 w v7 m u,h⟩ κn κx=κx .ret ⟨gK v0 v1 v2 v5 w v7 m u,h⟩:=by kernel_rfl
theorem anR:kcE (CL mx) [.cell 6 67,.cell 7 32] ⟨gK v0 v1 v2 v5 w v7 m u,h⟩=aF 4 w h (fun r0 _=>aF 2 v7 h (fun r1 _=>some (.vh (.tup [r0,r1]) h))):=(bW _ _ _).trans (by kernel_rfl)
theorem arF:dz (CL mx) 26=some ⟨acE mx,[0,1,2,5,6,7,8,13],28,[.cell 6 67,.cell 7 32]⟩:=by kernel_rfl
end
theorem alH (mx:Int) (run:Run) (lp:Lp) (x0 x1 x2:AV) (h:AH):dk (CL mx) run lp 26 [x0,x1,x2] h=vhO (kc (CL mx) run lp (acE mx) ⟨gK x0 x1 x2 .bot .bot .bot .bot .bot,h⟩ (kcE (CL mx) [.cell 6 67,.cell 7 32]) (kcQ (CL mx) [.cell 6 67,.cell 7 32])):=(bV (by kernel_rfl) (arF mx) (by kernel_rfl)).trans (by kernel_rfl)
end
def MsR (i0:Nat) (cp wp:AV) (h:AH) (F:PR) (x:AV) (h':AH):Prop:=
 It h' i0 cp wp∧Fx i0 h h'∧((F.code≠0∧x= .tup [.agg ZT,.agg [N64 F.code,N64 F.fat]])∨
  (F.code=0∧ ∃n b d t0 ks q0,F.stack=[.nd n b d (t0::ks)]∧x= .tup [.agg q0,.agg [N64 0,N64 0]]∧eX h' (fun b=>h.length≤b) q0 t0))
section
variable {mx:Int} {h h' h2:AH} {i0:Nat} {cp wp:AV} {F:PR}
theorem ajh (I:It h i0 cp wp) {rp bv:AV} {n k:Nat} {a b c:Nat} (hlen: ∀(h':AH) (κ:Ka),bG bv h' κ=κ (N64 k) h')
 (f:Nat) (HS: ∀h',h.length≤h'.length→(∀i,i<h.length→ab h' i=ab h i)→aL (ScR h'.length h' F) ((rl (CL mx) (f+2)).run 89 [rp,bv,.agg [N64 a,N64 b,N64 c]] h')):
 aL (MsR i0 cp wp h F) ((rl (CL mx) (f+3)).run 55 [.pto i0 16,rp,bv,.agg [N64 a,N64 b,N64 c]] h):=by
 refine aL.runs (n:=f+2) (alZ mx _ _ _ _ _ _ _) ?_;have lt:=I.lt;obtain ⟨X,hX⟩: ∃X:Blk,X=Blk.cells [N64 a,N64 b,N64 c] (38+1):=⟨_,rfl⟩;obtain ⟨yt,hyt⟩: ∃y:Nat,y=67+1:=⟨_,rfl⟩;obtain ⟨yf,hyf⟩: ∃y:Nat,y=32+1:=⟨_,rfl⟩;obtain ⟨Y,hY⟩: ∃Y:Blk,Y=Blk.cells ZT yt:=⟨_,rfl⟩;obtain ⟨Z,hZ⟩: ∃Z:Blk,Z=Blk.cells [.int 9223372036854775807 0,.int 9223372036854775807 0] yf:=⟨_,rfl⟩;obtain ⟨H,hH⟩: ∃H,H=h++[some X]++[some Y]++[some Z]:=⟨_,rfl⟩;have lH:H.length=h.length+3:=by rw [hH];simp
 have oH: ∀i,i<h.length→ab H i=ab h i:=fun i hi=>by rw [hH,ak (by simp;omega),ak (by simp;omega),ak hi]
 have xH:ab H h.length=some X:=by rw [hH,ak (by simp),ak (by simp),aD]
 have yH:ab H (h.length+1)=some Y:=by
  rw [hH,ak (by simp)]
  have:=aD (h++[some X]) (some Y)
  rwa [A7] at this
 have zH:ab H (h.length+1+1)=some Z:=by
  rw [hH]
  have:=aD (h++[some X]++[some Y]) (some Z)
  rwa [A7,A7] at this
 have l1:(h++[some X]).length=h.length+1:=by simp
 have l2:(h++[some X]++[some Y]).length=h.length+1+1:=by simp
 have sX:=hX;have sY:=hY;have sZ:=hZ
 rw [hyt] at sY;rw [hyf] at sZ
 simp only [Nat.reduceAdd,ZT] at sX sY sZ;have ld: ∀κ:Ka,aF 3 (.pto h.length 0) H κ=κ (.agg [N64 a,N64 b,N64 c]) H:=fun κ=>bg (n:=3) (y:=38+1) (by rw [xH,hX]) rfl κ
 simp only [sy,A7,seval,aiT,dK,show (AV.agg [N64 a,N64 b,N64 c]).nb=true from rfl,show (AV.agg [N64 a,N64 b,N64 c]).cells=[N64 a,N64 b,N64 c] from rfl,←sX,←sY,←sZ,l1,l2,←hH,ld];have g:=HS H (by omega) oH;refine cy g.call ?_;rintro x h1 ⟨s1,s2,stp,s3⟩;have I1:It h1 i0 cp wp:=I.of ((s2 i0 (by omega)).trans (oH i0 lt));have x1:ab h1 (h.length+1)=some Y:=(s2 _ (by omega)).trans yH;have z1:ab h1 (h.length+1+1)=some Z:=(s2 _ (by omega)).trans zH;rw [hY] at x1;rw [hZ] at z1
 suffices fin: ∀(q:List AV) (e1 e2:Nat),q.length=4→aO q=true→x= .tup [.agg q,.int 9223372036854775807 stp,.agg [N64 e1,N64 e2]]→Ends (fun r h'=>It h' i0 cp wp∧Fx i0 h h'∧r= .tup [.agg q,.agg [N64 e1,N64 e2]]∧ ∀i,h.length+3≤i→i<h1.length→ab h' i=ab h1 i) _ by
  rcases s3 with ⟨c0,e⟩|⟨c0,n,b,d,t0,ks,q0,e0,e,T⟩
  ·obtain ⟨r,h',e3,p1,p2,p3,p4⟩:=fin ZT F.code F.fat rfl rfl e
   exact ⟨r,h',e3,p1,p2,.inl ⟨c0,p3⟩⟩
  ·have q4:=T.four
   obtain ⟨r,h',e3,p1,p2,p3,p4⟩:=fin q0 0 0 q4.1 q4.2 e;exact ⟨r,h',e3,p1,p2,.inr ⟨c0,n,b,d,t0,ks,q0,e0,p3,T.mono t0 fun j hj hs=>⟨by omega,p4 j (by omega) hj⟩⟩⟩
 clear s3;rintro q e1 e2 q4 qp rfl;have l3:(h1++[some Y]).length=h1.length+1:=by simp
 obtain ⟨H2,hH2⟩: ∃H2,H2=h1++[some Y]++[some Z]:=⟨_,rfl⟩;have lH2:H2.length=h1.length+2:=by rw [hH2];simp
 have yH2:ab H2 h1.length=some Y:=by rw [hH2,ak (by simp),aD]
 have zH2:ab H2 (h1.length+1)=some Z:=by
  rw [hH2]
  have:=aD (h1++[some Y]) (some Z)
  rwa [l3] at this
 rw [hY] at yH2;rw [hZ] at zH2;have oH2: ∀i,i<h1.length→ab H2 i=ab h1 i:=fun i hi=>by rw [hH2,ak (by simp;omega),ak hi]
 obtain ⟨H3,hH3⟩: ∃H3,H3=(H2.set h1.length (some (.cells q yt))).set (h1.length+1) (some (.cells [N64 e1,N64 e2] yf)):=⟨_,rfl⟩;have lH3:H3.length=h1.length+2:=by rw [hH3,Bb,Bb];exact lH2
 have t3:ab H3 h1.length=some (.cells q yt):=by rw [hH3,ae (by omega)];exact aq (by omega) _
 have f3:ab H3 (h1.length+1)=some (.cells [N64 e1,N64 e2] yf):=by rw [hH3];exact aq (by rw [Bb];omega) _
 have oH3: ∀i,i<h1.length→ab H3 i=ab h1 i:=fun i hi=>by rw [hH3,ae (by omega),ae (by omega),oH2 i hi]
 have st1: ∀κ:Ka,ay 4 (.pto h1.length 0) (.agg q) H2 κ=κ (.tup []) (H2.set h1.length (some (.cells q yt))):=fun κ=>bB yH2 rfl q4 qp κ
 have zH3:=(ae (h:=H2) (show h1.length≠h1.length+1 by omega) (some (.cells q yt))).trans zH2;have st2: ∀κ:Ka,ay 2 (.pto (h1.length+1) 0) (.agg [N64 e1,N64 e2]) (H2.set h1.length (some (.cells q yt))) κ=κ (.tup []) H3:=fun κ=>by rw [hH3];exact bB (n:=2) (q:=[N64 e1,N64 e2]) zH3 rfl rfl rfl κ
 have I3:It H3 i0 cp wp:=I1.of (oH3 i0 (by omega));simp only [jH,eB,B8,BA,sj,l3,←hH2];refine wEq (st1 _) ?_;refine wEq (st2 _) ?_;refine wEq (hlen _ _) ?_;simp only [sy,A7,seval,f3];refine cy (ag9 (mx:=mx) I3 _ _ _ _ f).call ?_;rintro r h4 ⟨I4,F4⟩;have ne: ∀j,i0<j→j≠i0:=fun j hj=>by omega
 have f4:=(F4.2 (h1.length+1) (by omega) (by omega)).trans f3;have t4:=(F4.2 h1.length (by omega) (by omega)).trans t3;have y4:=((F4.2 (h.length+1) (by omega) (by omega)).trans (oH3 _ (by omega))).trans x1;have z4:=((F4.2 (h.length+1+1) (by omega) (by omega)).trans (oH3 _ (by omega))).trans z1;have l4:=F4.1;obtain ⟨H5,hH5⟩: ∃H5,H5=h4.set (h.length+1) (some (.cells q yt)):=⟨_,rfl⟩;obtain ⟨H6,hH6⟩: ∃H6,H6=H5.set (h.length+1+1) (some (.cells [N64 e1,N64 e2] yf)):=⟨_,rfl⟩;have lH5:H5.length=h4.length:=by rw [hH5,Bb]
 have lH6:H6.length=h4.length:=by rw [hH6,Bb,lH5]
 have st3: ∀κ:Ka,ay 4 (.pto (h.length+1) 0) (.agg q) h4 κ=κ (.tup []) H5:=fun κ=>by rw [hH5];exact bB y4 rfl q4 qp κ
 have z5:=(ae (h:=h4) (show h.length+1≠h.length+1+1 by omega) (some (.cells q yt))).trans z4;rw [←hH5] at z5;have st4: ∀κ:Ka,ay 2 (.pto (h.length+1+1) 0) (.agg [N64 e1,N64 e2]) H5 κ=κ (.tup []) H6:=fun κ=>by rw [hH6];exact bB (n:=2) (q:=[N64 e1,N64 e2]) z5 rfl rfl rfl κ
 have ld1: ∀κ:Ka,aF 4 (.pto h1.length 0) h4 κ=κ (.agg q) h4:=fun κ=>bg t4 q4 κ
 have ld2: ∀κ:Ka,aF 2 (.pto (h1.length+1) 0) h4 κ=κ (.agg [N64 e1,N64 e2]) h4:=fun κ=>bg f4 rfl κ
 have f5:ab H5 (h1.length+1)=some (.cells [N64 e1,N64 e2] yf):=by rw [hH5,ae (by omega)];exact f4
 have t6:ab H6 (h.length+1)=some (.cells q yt):=by rw [hH6,ae (by omega),hH5];exact aq (by omega) _
 have f6:ab H6 (h.length+1+1)=some (.cells [N64 e1,N64 e2] yf):=by rw [hH6];exact aq (by omega) _
 have ld3: ∀κ:Ka,aF 2 (.pto (h1.length+1) 0) H5 κ=κ (.agg [N64 e1,N64 e2]) H5:=fun κ=>bg (n:=2) f5 rfl κ
 have ld5: ∀κ:Ka,aF 4 (.pto (h.length+1) 0) H6 κ=κ (.agg q) H6:=fun κ=>bg t6 q4 κ
 have ld6: ∀κ:Ka,aF 2 (.pto (h.length+1+1) 0) H6 κ=κ (.agg [N64 e1,N64 e2]) H6:=fun κ=>bg (n:=2) f6 rfl κ
 have gf:aN (ag h4) H5=H5:=by rw [show ag h4=ag H5 by rw [ah,ah,lH5],eM]
 have ble5:decide (h4.length≤H5.length)=true:=by rw [decide_eq_true_iff];omega
 have ble6:decide (H5.length≤H6.length)=true:=by rw [decide_eq_true_iff];omega
 refine wEq (ai0 ..) ?_;simp only [sy0,sy3,syL,jx,lj,jZ,ld1,ld2,ld3,st3,st4,ble5,ble6,nj,o1,sH,sG,aaf,ep,gf];rw [show ltL (ag h4) [N64 e1,N64 e2]=true from rfl,bqT];simp only [ja,afH,ajk,iQ,aj5];refine wEq (ld5 _) ?_;refine wEq (ld6 _) ?_;have F6:Fx i0 h H6:=by
  have fx1:Fx i0 h h1:=⟨by omega,fun i hi _=>(s2 i (by omega)).trans (oH i hi)⟩;have fx3:Fx i0 h H3:=⟨by omega,fun i hi hn=>(oH3 i (by omega)).trans (fx1.2 i hi hn)⟩;rw [hH6];refine Fx.an9 (by omega) ?_ _;rw [hH5];exact Fx.an9 (by omega) (fx3.trans F4) _
 refine Ends.mk ⟨I4.of ?_,F6,rfl,fun i hi hi1=>?_⟩
 ·rw [hH6,ae (by omega),hH5,ae (by omega)]
 ·rw [hH6,ae (by omega),hH5,ae (by omega),F4.2 i (by omega) (by omega),oH3 i hi1]
theorem agH {H0:AH} {bv:AV} {k a b c:Nat} (hlen: ∀(h':AH) (κ:Ka),bG bv h' κ=κ (N64 k) h') (hi:i0<h.length)
 (f:Nat) (hH:H0=h++[some (.cells [N64 a,N64 b,N64 c] (38+1))]++[some (.cells ZT (67+1))]++[some (.cells [.int 9223372036854775807 0,.int 9223372036854775807 0] (32+1))])
 (HR:aL (fun r h'=>r= .agg [N64 0,N64 0]∧It h' i0 cp wp∧Fx i0 H0 h') ((rl (CL mx) (f+3)).run 54 [.pto i0 0] H0))
 (HS: ∀h',h.length≤h'.length→(∀i,i<h.length→i≠i0→ab h' i=ab h i)→aL (ScR h'.length h' F) ((rl (CL mx) (f+2)).run 89 [cp,bv,.agg [N64 a,N64 b,N64 c]] h')):
 aL (MsR i0 cp wp h F) ((rl (CL mx) (f+4)).run 26 [.pto i0 0,bv,.agg [N64 a,N64 b,N64 c]] h):=by
 refine aL.runs (n:=f+3) (alH mx _ _ _ _ _ _) ?_;obtain ⟨X,hX⟩: ∃X:Blk,X=Blk.cells [N64 a,N64 b,N64 c] (38+1):=⟨_,rfl⟩;obtain ⟨yt,hyt⟩: ∃y:Nat,y=67+1:=⟨_,rfl⟩;obtain ⟨yf,hyf⟩: ∃y:Nat,y=32+1:=⟨_,rfl⟩;obtain ⟨Y,hY⟩: ∃Y:Blk,Y=Blk.cells ZT yt:=⟨_,rfl⟩;obtain ⟨Z,hZ⟩: ∃Z:Blk,Z=Blk.cells [.int 9223372036854775807 0,.int 9223372036854775807 0] yf:=⟨_,rfl⟩;have sX:=hX;have sY:=hY;have sZ:=hZ;rw [hyt] at sY;rw [hyf] at sZ;rw [←hyt,←hyf,←hX,←hY,←hZ] at hH;have lH:H0.length=h.length+3:=by rw [hH];simp
 have oH: ∀i,i<h.length→ab H0 i=ab h i:=fun i hi=>by rw [hH,ak (by simp;omega),ak (by simp;omega),ak hi]
 have xH:ab H0 h.length=some X:=by rw [hH,ak (by simp),ak (by simp),aD]
 have yH:ab H0 (h.length+1)=some Y:=by
  rw [hH,ak (by simp)]
  have:=aD (h++[some X]) (some Y)
  rwa [A7] at this
 have zH:ab H0 (h.length+1+1)=some Z:=by
  rw [hH]
  have:=aD (h++[some X]++[some Y]) (some Z)
  rwa [A7,A7] at this
 have l1:(h++[some X]).length=h.length+1:=by simp
 have l2:(h++[some X]++[some Y]).length=h.length+1+1:=by simp
 simp only [Nat.reduceAdd,ZT] at sX sY sZ;refine wEq (ai9 ..) ?_;rw [dK];simp only [eB,bqT,show (AV.agg [N64 a,N64 b,N64 c]).nb=true from rfl,show (AV.agg [N64 a,N64 b,N64 c]).cells=[N64 a,N64 b,N64 c] from rfl,←sX,←sY,←sZ,l1,l2,←hH];refine wEq (agY ..) ?_;refine cy HR.call ?_;rintro r h1 ⟨rfl,I1,F1⟩;have l1':=F1.1;have x1:=(F1.2 h.length (by omega) (by omega)).trans xH;have y1:=(F1.2 (h.length+1) (by omega) (by omega)).trans yH;have z1:=(F1.2 (h.length+1+1) (by omega) (by omega)).trans zH;obtain ⟨H2,hH2⟩: ∃H2,H2=h1++[some (.cells [.int 9223372036854775807 0,.int 9223372036854775807 0] yf)]:=⟨_,rfl⟩;have st: ∀κ:Ka,ay 2 (.pto h1.length 0) (.agg [N64 0,N64 0]) (h1++[some Z]) κ=κ (.tup []) H2:=fun κ=>by rw [hZ,hH2];exact bD rfl rfl rfl
 have t2:ab H2 h1.length=some (.cells [.int 9223372036854775807 0,.int 9223372036854775807 0] yf):=by rw [hH2,aD]
 have o2: ∀i,i<h1.length→ab H2 i=ab h1 i:=fun i hi=>by rw [hH2,ak hi]
 have lH2:H2.length=h1.length+1:=by rw [hH2];simp
 have I2:It H2 i0 cp wp:=I1.of (o2 i0 (by omega));have x2:=(o2 h.length (by omega)).trans x1;have y2:=(o2 (h.length+1) (by omega)).trans y1;have z2:=(o2 (h.length+1+1) (by omega)).trans z1;rw [hX] at x2;rw [hY] at y2;rw [hZ] at z2;have ic: ∃cs y,ab H2 i0=some (.cells cs y)∧cs[7]? =some cp:=by
  obtain ⟨c0,c1,c2,c3,c5,c6,c9,c10,c11,c15,q,s,ff,bb,t,p,y,e⟩:=I2;exact ⟨_,_,e,rfl⟩
 obtain ⟨ci,yi,e0,e7⟩:=ic;simp only [eB,←sZ];refine wEq (st _) ?_;have g1:decide ((0:Int)≠0)=false:=by decide
 simp only [sy,A7,seval,t2,g1,aiI,ahd,e0,e7,x2];have F2:Fx i0 h H2:=by
  rw [hH2];exact Fx.trans (Fx.trans (show Fx i0 h H0 from ⟨by omega,fun i hi _=>oH i hi⟩) F1) (Fx.app _)
 have g:=ajh (mx:=mx) (F:=F) (rp:=cp) (n:=0) I2 (k:=k) (a:=a) (b:=b) (c:=c) hlen f fun h' l e=>HS h' (by omega) fun i hi hn=>(e i (by omega)).trans (F2.2 i hi hn)
 refine cy g.call ?_;rintro r h3 ⟨I3,F3,s3⟩;have l3:=F3.1;have y3:=(F3.2 (h.length+1) (by omega) (by omega)).trans y2;have z3:=(F3.2 (h.length+1+1) (by omega) (by omega)).trans z2
 suffices fin: ∀(q:List AV) (e1 e2:Nat),q.length=4→aO q=true→r= .tup [.agg q,.agg [N64 e1,N64 e2]]→Ends (fun r h'=>It h' i0 cp wp∧Fx i0 h h'∧r= .tup [.agg q,.agg [N64 e1,N64 e2]]∧ ∀i,h.length+3≤i→i<h3.length→ab h' i=ab h3 i) _ by
  rcases s3 with ⟨c0,e⟩|⟨c0,n,b,d,t0,ks,q0,e0,e,T⟩
  ·obtain ⟨r,h',e3,p1,p2,p3,p4⟩:=fin ZT F.code F.fat rfl rfl e
   exact ⟨r,h',e3,p1,p2,.inl ⟨c0,p3⟩⟩
  ·have q4:=T.four
   obtain ⟨r,h',e3,p1,p2,p3,p4⟩:=fin q0 0 0 q4.1 q4.2 e;exact ⟨r,h',e3,p1,p2,.inr ⟨c0,n,b,d,t0,ks,q0,e0,p3,T.mono t0 fun j hj hs=>⟨by omega,p4 j (by omega) hj⟩⟩⟩
 clear s3;rintro q e1 e2 q4 qp rfl;obtain ⟨H5,hH5⟩: ∃H5,H5=h3.set (h.length+1) (some (.cells q yt)):=⟨_,rfl⟩;obtain ⟨H6,hH6⟩: ∃H6,H6=H5.set (h.length+1+1) (some (.cells [N64 e1,N64 e2] yf)):=⟨_,rfl⟩;have lH5:H5.length=h3.length:=by rw [hH5,Bb]
 have lH6:H6.length=h3.length:=by rw [hH6,Bb,lH5]
 have z5:ab H5 (h.length+1+1)=some (.cells [.int 9223372036854775807 0,.int 9223372036854775807 0] yf):=by rw [hH5,ae (by omega)];exact z3
 have st3: ∀κ:Ka,ay 4 (.pto (h.length+1) 0) (.agg q) h3 κ=κ (.tup []) H5:=fun κ=>by rw [hH5];exact bB y3 rfl q4 qp κ
 have st4: ∀κ:Ka,ay 2 (.pto (h.length+1+1) 0) (.agg [N64 e1,N64 e2]) H5 κ=κ (.tup []) H6:=fun κ=>by rw [hH6];exact bB (n:=2) (q:=[N64 e1,N64 e2]) z5 rfl rfl rfl κ
 have t6:ab H6 (h.length+1)=some (.cells q yt):=by rw [hH6,ae (by omega),hH5];exact aq (by omega) _
 have f6:ab H6 (h.length+1+1)=some (.cells [N64 e1,N64 e2] yf):=by rw [hH6];exact aq (by omega) _
 have ld5: ∀κ:Ka,aF 4 (.pto (h.length+1) 0) H6 κ=κ (.agg q) H6:=fun κ=>bg t6 q4 κ
 have ld6: ∀κ:Ka,aF 2 (.pto (h.length+1+1) 0) H6 κ=κ (.agg [N64 e1,N64 e2]) H6:=fun κ=>bg (n:=2) f6 rfl κ
 have b0:Nat.ble (ag H2) (ag h3)=true:=by rw [cq,ah,ah,decide_eq_true_iff];exact F3.1
 have b5:Nat.ble (ag h3) (ag H5)=true:=by rw [cq,ah,ah,decide_eq_true_iff];omega
 have b6:Nat.ble (ag H5) (ag H6)=true:=by rw [cq,ah,ah,decide_eq_true_iff];omega
 simp only [b0,bqT,jH,B8,BA,sj];refine wEq (st3 _) ?_;simp only [b5,bqT];refine wEq (st4 _) ?_;simp only [b6,bqT,ahV,iQ,anR];refine wEq (ld5 _) ?_;refine wEq (ld6 _) ?_;have F6:Fx i0 h H6:=by
  rw [hH6];refine Fx.an9 (by omega) ?_ _;rw [hH5];exact Fx.an9 (by omega) (F2.trans F3) _
 refine Ends.mk ⟨I3.of ?_,F6,rfl,fun i hi hi1=>?_⟩
 ·rw [hH6,ae (by omega),hH5,ae (by omega)]
 ·rw [hH6,ae (by omega),hH5,ae (by omega)]
end
def Old (h h':AH):Prop:=h.length≤h'.length∧ ∀i,i<h.length→ab h' i=ab h i
theorem Old.rfl {h:AH}:Old h h:=⟨A9 _,fun _ _=>(by rfl)⟩
theorem Old.app {h h':AH} (o:Old h h') (x:AH):Old h (h'++x):=⟨by rw [A7];have:=o.1;omega,fun i hi=>by rw [ak (by have:=o.1;omega)];exact o.2 i hi⟩
theorem Old.set {h h':AH} (o:Old h h') {j:Nat} (hj:h.length≤j) (x:Option Blk):Old h (h'.set j x):=⟨by rw [Bb];exact o.1,fun i hi=>by rw [ae (by omega)];exact o.2 i hi⟩
theorem Old.trans {h h' h2:AH} (a:Old h h') (b:Old h' h2):Old h h2:=⟨Bo a.1 b.1,fun i hi=>(b.2 i (Bm hi a.1)).trans (a.2 i hi)⟩
theorem amx (m:Nat) (h:AH):m≤(aN m h).length∧h.length≤(aN m h).length:=by
 unfold aN;rw [aV,aS,gL,ah,A7,Bq,CA];show _≤min m h.length+((h.length-m)+(m-h.length))∧_≤min m h.length+((h.length-m)+(m-h.length));omega
theorem Old.aN {h h':AH} (o:Old h h') {m:Nat} (hm:h.length≤m):Old h (aN m h'):=⟨Bo hm (amx m h').1,fun i hi=>by rw [uU,if_pos (by omega)];exact o.2 i hi⟩
theorem Old.pW {h H h':AH} {b:Nat} (o:Old h H) (hb:h.length≤b) (f:Fx b H h'):Old h h':=⟨Bo o.1 f.1,fun i hi=>(f.2 i (Bm hi o.1) (by omega)).trans (o.2 i hi)⟩
def LtH (h:AH) (v:AV):Prop:=∀n,h.length≤n→v.lt n=true
theorem LtH.int {h:AH} (m:Nat) (x:Int):LtH h (.int m x):=fun _ _=>(by rfl)
theorem LtH.bool {h:AH} (b:Bool):LtH h (.bool b):=fun _ _=>(by rfl)
theorem LtH.aa {h:AH}:LtH h .aa:=fun _ _=>(by rfl)
theorem LtH.pto {h:AH} {b o:Nat} (hb:b<h.length):LtH h (.pto b o):=fun n hn=>by rw [fE];exact decide_eq_true (by omega)
theorem LtH.slo {h:AH} {b o l c z:Nat} {e:Bool} (hb:b<h.length):LtH h (.slo b o l c z e):=fun n hn=>by rw [uP];exact decide_eq_true (by omega)
theorem LtH.mono {h h':AH} {v:AV} (l:LtH h v) (hl:h.length≤h'.length):LtH h' v:=fun n hn=>l n (by omega)
def Cl1 (h:AH) (M c:AV):Prop:=LtH h M∧LtH h c∧ ∀h',Old h h'→ ∀κ:Ka,ao M h' κ=κ c h'
def aaT (h:AH) (S:Nat→Prop) (kv:AV) (i:Nat) (t:PT):Prop:=∃q P,eX h S q t∧(∀(k:Nat) (h':AH) (κ:Ka),bM 4 kv (.int k (i:Int)) h' κ=κ P h')∧LtH h P∧(∀h',Old h h'→ ∀κ:Ka,aF 4 P h' κ=κ (.agg q) h')∧
 ∀(j:Nat) (c:AV),q[j]? =some c→ ∃M,(∀(h':AH) (κ:Ka),aj j P h' κ=κ M h')∧Cl1 h M c
theorem jg.ltH {h:AH} {S:Nat→Prop} {v:AV} {d:List Nat} (D:jg h S v d):LtH h v:=by
 rcases D with ⟨_,rfl⟩|⟨_,b,e,y,rfl,_,e3⟩
 ·exact LtH.aa
 ·exact LtH.slo (aJ e3)
theorem eX.ltH {h:AH} {S:Nat→Prop} {q:List AV} {t:PT} (T:eX h S q t): ∀c∈q,LtH h c:=by
 cases t with
 |nd n b d ks=>
  unfold eX at T;obtain ⟨dv,kv,rfl,e2,e3⟩:=T;intro c hc;simp only [Bv,List.not_mem_nil,or_false] at hc;rcases hc with rfl|rfl|rfl|rfl
  ·exact LtH.int _ _
  ·exact LtH.bool _
  ·exact e2.ltH
  ·rcases e3 with ⟨_,rfl⟩|⟨kb,e,rows,y,rfl,_,hb,_⟩
   ·exact LtH.aa
   ·exact LtH.slo (aJ hb)
theorem eX.kids {h:AH} {S:Nat→Prop} {q:List AV} {n:Nat} {b:Bool} {d:List Nat} {ks:List PT} (T:eX h S q (.nd n b d ks)): ∃dv kv,q=[U64 n,.bool b,dv,kv]∧jg h S dv d∧LtH h dv∧LtH h kv∧(∀(h':AH) (κ:Ka),bG kv h' κ=κ (N64 ks.length) h')∧ ∀i t,ks[i]? =some t→aaT h S kv i t:=by
 have lt:=T.ltH;unfold eX at T;obtain ⟨dv,kv,e1,e2,e3⟩:=T;refine ⟨dv,kv,e1,e2,e2.ltH,lt kv (by rw [e1];simp),?_⟩;rcases e3 with ⟨rfl,rfl⟩|⟨kb,e,rows,y,rfl,hS,hb,hr⟩
 ·exact ⟨fun _ _=>(by rfl),fun i t h=>by simp at h⟩
 ·refine ⟨fun _ _=>(by rfl),fun i t ht=>?_⟩
  obtain ⟨hl,h4⟩:=cH.rows hr;obtain ⟨q',hq',T'⟩:=cH.get hr ht;have ob:OwB h 4 (.slo kb 0 ks.length ks.length 4 e) rows kb ks.length e [] y:=⟨by rw [hl],by rw [Bx];exact hb,by rw [hl];exact A9 _,by rw [mb h4,hl];rfl⟩;have lt:=aJ hb;have el:=ob.el h4 hq';have old: ∀h',Old h h'→OwB h' 4 (.slo kb 0 ks.length ks.length 4 e) rows kb ks.length e [] y:=fun h' o=>⟨ob.val,by rw [o.2 kb lt];exact ob.blk,ob.fit,ob.len⟩
  refine ⟨q',.pto kb (i*4),T'.mono t fun b hb hs=>⟨hs.1,rfl⟩,el.idx,LtH.pto lt,fun h' o=>((old h' o).el h4 hq').ldG,fun j c hc=>⟨.pto kb (i*4+j),fun h' κ=>by rw [tR],LtH.pto lt,T'.ltH c (Bg hc),fun h' o=>((old h' o).el h4 hq').ld1 j c hc⟩⟩
theorem rn {h:AH} {b y j:Nat} {cs:List AV} {c:AV} (e:ab h b=some (.cells cs y)) (hc:cs[j]? =some c) (lc:LtH h c):Cl1 h (.pto b j) c:=
 ⟨LtH.pto (aJ e),lc,fun h' o κ=>by rw [lE,o.2 b (aJ e),e,aT];show au cs[j]? (fun v=>κ v h')=_;rw [hc];rfl⟩
theorem agJ {h:AH} {S:Nat→Prop} {dv:AV} {d:List Nat} (D:jg h S dv d):dv.plain=true:=D.at.plain
theorem zf {z:Nat} (q:List AV) (hq:q.length=z) (h:AH):eo (h++[some (.cells q 0)]) z 1 (.slo h.length 0 1 1 z true)=some q:=by
 unfold eo;simp only [aD];rw [cq,ah,hq,show Nat.mul 1 z=z from Nat.one_mul _,Nat.add_eq,BE,decide_eq_true (A9 _),aS,bt,BF,←hq,Cc];rfl
section
variable {C:Cx} {run:Run} {Q:Option Rs→Prop} {κn:Kt} {κx:Ex→Kt} {σ:List AV} {h h' h0:AH} {q:Option Rs} {v:AV} {k:Tr→Option Rs}
theorem wRd {h2:AH} (e:q=some (.vh v h2)) (g:Q (kcR κn κx (dr (k ⟨σ,h,v,h⟩)))):Q (kcR κn κx (dr (sRd σ h q k))):=by rw [e,jx];exact g
theorem wEf (e:q=some (.vh v h')) (hl:h.length≤h'.length) (g:Q (kcR κn κx (dr (k ⟨σ,h,v,h'⟩)))):Q (kcR κn κx (dr (sEf σ h q k))):=by rw [e,lj,decide_eq_true hl];exact g
theorem wMk {f:AH→Option Rs} {w:Nat→AV} {B:Option Blk} {H2:AH} (e: ∀h,f h=some (.vh (w h.length) (h++[B]))) (hH:H2=h++[B]) (g:Q (kcR κn κx (dr (k ⟨σ,h,w h.length,H2⟩)))):Q (kcR κn κx (dr (sMk σ h f k))):=by rw [pG (v:=w) e,←hH];exact g
theorem bC {a b:Bool} {x:Option Rs} (ha:a=true) (g:Q (kcR κn κx (dr (bq b x none)))):Q (kcR κn κx (dr (bq (and a b) x none))):=by rw [ha];exact g
theorem aji {t:Tms} (g:Q (κn ⟨t,h⟩)):Q (kcR κn κx (dr (bq true (some (.st t h)) none))):=g
theorem aw {h2:AH} (l:LtH h0 v) (hl:h0.length≤h.length) (e:q=some (.vh v h2)):aG ⟨σ,h,v,h'⟩ q=true:=by rw [e,ep];exact l _ (by rw [ah];exact hl)
end
noncomputable section
def dH (v0 v1 v2 j v5 g v9 v10 v11 d v20 e c:AV):Tm:=(.nd 9 (.nd 3 (.nd 1 (.lf 0 v0) (.nd 2 (.lf 1 v1) (.lf 2 v2))) (.nd 5 (.lf 3 j) (.nd 6 (.lf 5 v5) (.lf 6 g)))) (.nd 12 (.nd 10 (.lf 9 v9) (.nd 11 (.lf 10 v10) (.lf 11 v11))) (.nd 21 (.nd 20 (.lf 12 d) (.lf 20 v20)) (.nd 34 (.lf 21 e) (.lf 34 c)))))
def adX (mx:Int):K:=kAt [] (kOf (CL mx) 27)
def amN (mx:Int):K:=kAt [1,1,0] (kOf (CL mx) 27)
def amK (mx:Int):K:=kAt [1,1,1] (kOf (CL mx) 27)
def acL (mx:Int):K:=kAt [1,1,0,1,0,0] (kOf (CL mx) 27)
def ajO (mx:Int):K:=kAt [1,1,0,1,0,0,1,1,0] (kOf (CL mx) 27)
def ap8 (mx:Int):K:=kAt [1,1,0,1,0,0,1,1,1] (kOf (CL mx) 27)
def alw (mx:Int):K:=kAt [1,1,0,1,0,0,1,1,0,0,1,1,1,0,1,0] (kOf (CL mx) 27)
section
set_option maxRecDepth 100000
variable (mx:Int) (run:Run) (lp:Lp) (κn:Kt) (κx:Ex→Kt) (h:AH) (v0 v1 v2 j v5 g v9 v10 v11 d v20 e c:AV)
theorem ahE:kc (CL mx) run lp (adX mx) ⟨dH v0 v1 v2 j v5 g v9 v10 v11 d v20 e c,h⟩ κn κx=fQ 68 v0 h (fun a0 h=>cU h (.cells [.aa,.int 9223372036854775807 0] 48) (fun a1 h=>dX (placeOf (CL mx) [(0,45),(1,3)]) [.aa,.int 9223372036854775807 0] [(1,(.int 9223372036854775807 (-1)))] h (fun a2 h=>cU h (.cells [.aa,.int 9223372036854775807 0] 48) (fun a3 h=>ay 2 a3 a2 h (fun a4 h=>kc (CL mx) run lp (amN mx) ⟨dH v0 a0 a1 a3 v5 g v9 v10 v11 d v20 e c,h⟩ (fun s=>kc (CL mx) run lp (amK mx) s κn κx) κx))))):=by kernel_rfl
theorem ah6:kc (CL mx) run lp (amN mx) ⟨dH v0 v1 v2 j v5 g v9 v10 v11 d v20 e c,h⟩ κn κx=aj 3 v1 h (fun a0 h=>ao a0 h (fun a1 h=>bG a1 h (fun a2 h=>kcR κn (kcO 0 κn κx) (lp (acL mx) ⟨dH v0 v1 v2 j v5 g a1 a2 (.int 9223372036854775807 0) d v20 e c,h⟩)))):=by kernel_rfl
theorem agX:kc (CL mx) run lp (amK mx) ⟨dH v0 v1 v2 j v5 g v9 v10 v11 d v20 e c,h⟩ κn κx=aF 2 j h (fun a0 h=>ay 2 v2 a0 h (fun a1 h=>κx .ret ⟨dH v0 v1 v2 j v5 g v9 v10 v11 d v20 e c,h⟩)):=by kernel_rfl
theorem kZ:kc (CL mx) run lp (acL mx) ⟨dH v0 v1 v2 j v5 g v9 v10 v11 d v20 e c,h⟩ κn κx=cmp ilt v11 v10 h (fun a0 h=>bJ a0 (kc (CL mx) run lp (ajO mx) ⟨dH v0 v1 v2 j v5 g v9 v10 v11 a0 v20 e c,h⟩ (fun s=>kc (CL mx) run lp (ap8 mx) s κn κx) κx) (κx (.exit 0) ⟨dH v0 v1 v2 j v5 g v9 v10 v11 a0 v20 e c,h⟩)):=by kernel_rfl
theorem rP:kc (CL mx) run lp (ajO mx) ⟨dH v0 v1 v2 j v5 g v9 v10 v11 d v20 e c,h⟩ κn κx=bM 4 v9 v11 h (fun a0 h=>aF 4 a0 h (fun a1 h=>cU h (.cells [.int 18446744073709551615 0,.bool false,.aa,.aa] 68) (fun a2 h=>ay 4 a2 a1 h (fun a3 h=>aj 3 a2 h (fun a4 h=>ao a4 h (fun a5 h=>bM 4 a5 (.int 9223372036854775807 0) h (fun a6 h=>aF 4 a6 h (fun a7 h=>cU h (.cells [.int 18446744073709551615 0,.bool false,.aa,.aa] 68) (fun a8 h=>ay 4 a8 a7 h (fun a9 h=>aj 0 a2 h (fun a10 h=>ao a10 h (fun a11 h=>cmp cD a11 (.int 18446744073709551615 0) h (fun a12 h=>bJ a12 (kc (CL mx) run lp (alw mx) ⟨dH v0 v1 v2 j a2 a8 v9 v10 v11 d a11 a12 c,h⟩ κn (kcO 2 κn (kcO 1 κn κx))) (cmp cD a11 (.int 18446744073709551615 2) h (fun a13 h=>bJ a13 (aj 0 a8 h (fun a14 h=>ao a14 h (fun a15 h=>pS 18446744073709551615 18446744073709551615 Nat.land a15 (.int 18446744073709551615 16383) h (fun a16 h=>cvI 9223372036854775807 a16 h (fun a17 h=>aj 1 j h (fun a18 h=>bQ a18 a17 h (fun a19 h=>κn ⟨dH v0 v1 v2 j a2 a8 v9 v10 v11 d a11 a12 a13,h⟩))))))) (κn ⟨dH v0 v1 v2 j a2 a8 v9 v10 v11 d a11 a12 a13,h⟩)))))))))))))))):=by kernel_rfl
theorem rT:kc (CL mx) run lp (ap8 mx) ⟨dH v0 v1 v2 j v5 g v9 v10 v11 d v20 e c,h⟩ κn κx=arith cg v11 (.int 9223372036854775807 1) h (fun a0 h=>κn ⟨dH v0 v1 v2 j v5 g v9 v10 a0 d v20 e c,h⟩):=by kernel_rfl
theorem ahw:kc (CL mx) run lp (alw mx) ⟨dH v0 v1 v2 j v5 g v9 v10 v11 d v20 e c,h⟩ κn κx=aj 0 j h (fun a0 h=>ao a0 h (fun a1 h=>aj 3 g h (fun a2 h=>ao a2 h (fun a3 h=>bM 4 a3 (.int 9223372036854775807 1) h (fun a4 h=>aj 2 a4 h (fun a5 h=>ao a5 h (fun a6 h=>dD a6 h (fun a7 h=>fA 1 1 [.str []] [(0,a7)] h (fun a8 h=>gg 10 1 16 a1 a8 h (fun a9 h1=>bq (Nat.ble (ag h) (ag h1)) ((fun h=>aj 0 j h (fun a10 h=>bQ a10 a9 h (fun a11 h1=>bq (Nat.ble (ag h) (ag h1)) ((fun h=>κn ⟨dH v0 v1 v2 j v5 g v9 v10 v11 d v20 e c,h⟩) h1) none))) h1) none)))))))))):=(cA (C:=CL mx) (ops:=opsOf (cAt [1,1,0,1,0,0,1,1,0,0,1,1,1,0,1,0] (bS (CL mx) 27))) (ps:=[0,1,2,3,5,6,9,10,11,12,20,21,34]) (by kernel_rfl) (by kernel_rfl) _ _ _).trans (by kernel_rfl)
theorem ak1:kcE (CL mx) [.cell 2 47] ⟨dH v0 v1 v2 j v5 g v9 v10 v11 d v20 e c,h⟩=aF 2 v2 h (fun r0 _=>some (.vh r0 h)):=(bW _ _ _).trans (by kernel_rfl)
theorem arz:dz (CL mx) 27=some ⟨adX mx,[0,1,2,3,5,6,9,10,11,12,20,21,34],43,[.cell 2 47]⟩:=by kernel_rfl
end
theorem aoz (mx:Int) (run:Run) (lp:Lp) (x0:AV) (h:AH):dk (CL mx) run lp 27 [x0] h=vhO (kc (CL mx) run lp (adX mx) ⟨dH x0 .bot .bot .bot .bot .bot .bot .bot .bot .bot .bot .bot .bot,h⟩ (kcE (CL mx) [.cell 2 47]) (kcQ (CL mx) [.cell 2 47])):=(bV (by kernel_rfl) (arz mx) (by kernel_rfl)).trans (by kernel_rfl)
theorem ni (mx:Int) (p:List Nat):eQ (CL mx) (kAt p (kOf (CL mx) 27)):=iX p (iT (CL mx) 27)
end
structure NOk (x:kQ):Prop where
 len:x.labels.length≤1000
 bytes: ∀l∈x.labels,∀b∈l,b<256
 ptr: -1≤x.ptr∧x.ptr<16384
def sL (h:AH) (S:Nat→Prop) (lv pv:AV) (x:kQ):Prop:=pv= .int 9223372036854775807 x.ptr∧Ow1 h S lv (eS x.labels)
section
variable {mx:Int} {h h' h1:AH} {S:Nat→Prop} {Q:Option Rs→Prop} {κn:Kt} {κx:Ex→Kt}
theorem anM {p:Nat} (hp:p<16384):Nat.land (49152+p) 16383=p:=by
 show (49152+p)&&&16383=p;rw [show (16383:Nat)=2^14-1 from rfl,CB];omega
theorem an5 {h H:AH} {b3 y3 n1:Nat} {kv:AV} {x:kQ} (ok:NOk x) (o:Old h H) (hb:h.length≤b3) (hb1:b3<H.length) (hn:n1=H.length) (hk: ∀i t,(mc x)[i]? =some t→aaT h S kv i t) (v0 v1 v2:AV):
 ∀(R A:List (List Nat)) (f:Nat) (hc:AH) (lv v5 g d v20 e c:AV),x.labels=A++R→R.length+4≤f→Fx b3 H hc→ab hc b3=some (.cells [lv,.int 9223372036854775807 (-1)] y3)→Ow1 hc (fun b=>n1≤b) lv (eS A)→
  (∀h' lv v5 g d v20 e c,Fx b3 H h'→ab h' b3=some (.cells [lv,.int 9223372036854775807 x.ptr] y3)→Ow1 h' (fun b=>n1≤b) lv (eS x.labels)→Q (κx (.exit 0) ⟨dH v0 v1 v2 (.pto b3 0) v5 g kv (N64 (x.labels.length+1)) (N64 (x.labels.length+1)) d v20 e c,h'⟩))→
  Q (kcR κn κx ((rl (CL mx) f).lp (acL mx) ⟨dH v0 v1 v2 (.pto b3 0) v5 g kv (N64 (x.labels.length+1)) (N64 A.length) d v20 e c,hc⟩)):=by
 intro R
 induction R with
 |nil=>
  intro A f hc lv v5 g d v20 e c hA hf fx e3 ow k;obtain ⟨f,rfl⟩:=fuel hf;obtain rfl:x.labels=A:=by simpa using hA
  have hlen:=ok.len;have hkl:(mc x)[x.labels.length]? =some (aic x.ptr):=by unfold mc;rw [Bl (by simp)];simp
  obtain ⟨q,P,T,ix,lP,lG,ld⟩:=hk _ _ hkl;have oc:Old h hc:=Old.pW o hb fx;have lc:=aJ e3;have g1:decide ((x.labels.length:Int)<((x.labels.length+1:Nat):Int))=true:=by rw [decide_eq_true_iff];omega
  have g2:decide (((x.labels.length+1:Nat):Int)<((x.labels.length+1:Nat):Int))=false:=by rw [decide_eq_false_iff_not];omega
  have w1:aQ 9223372036854775807 ((x.labels.length:Int)+1)=((x.labels.length+1:Nat):Int):=by rw [bp (by omega) (by omega)];simp
  have q4:=T.four
  by_cases hp:x.ptr<0
  ·have hp1:x.ptr= -1:=by have:=ok.ptr;omega
   unfold aic at T;rw [if_pos hp] at T;obtain ⟨dv,kv1,rfl,D,lD,lK,len1,kid1⟩:=T.kids;obtain ⟨q0,P0,T0,ix0,lP0,lG0,ld0⟩:=kid1 0 _ rfl;have q04:=T0.four;have lGc:=lG hc oc;have z0: ∀κ:Ka,ay 4 (.pto hc.length 0) (.agg [U64 1,.bool false,dv,kv1]) (hc++[some (.cells [.int 18446744073709551615 0,.bool false,.aa,.aa] (67+1))]) κ=κ (.tup []) (hc++[some (.cells [U64 1,.bool false,dv,kv1] (67+1))]):=fun κ=>bD rfl rfl q4.2
   have t0:=aD hc (some (Blk.cells [U64 1,.bool false,dv,kv1] (67+1)));simp only [Nat.reduceAdd] at z0 t0;have ix00: ∀(k:Nat) (h':AH) (κ:Ka),bM 4 kv1 (.int k 0) h' κ=κ P0 h':=ix0
   generalize hH0:hc++[some (Blk.cells [U64 1,.bool false,dv,kv1] (67+1))]=H0 at*
   have l0:H0.length=hc.length+1:=by rw [←hH0];simp
   have o0:Old h H0:=by rw [←hH0];exact oc.app _
   have lG00:=lG0 H0 o0;have zv: ∀κ:Ka,ay 4 (.pto H0.length 0) (.agg q0) (H0++[some (.cells [.int 18446744073709551615 0,.bool false,.aa,.aa] (67+1))]) κ=κ (.tup []) (H0++[some (.cells q0 (67+1))]):=fun κ=>bD rfl q04.1 q04.2
   simp only [Nat.reduceAdd] at zv;have t1:ab (H0++[some (Blk.cells q0 (67+1))]) hc.length=_:=(ak (by omega) _).trans t0;simp only [Nat.reduceAdd] at t1;have f0:Fx b3 H (H0++[some (Blk.cells q0 (67+1))]):=by rw [←hH0];exact (fx.trans (Fx.app _)).trans (Fx.app _)
   have e30:ab (H0++[some (Blk.cells q0 (67+1))]) b3=_:=((ak (by omega) _).trans (by rw [←hH0];exact ak lc _)).trans e3
   have ow0:Ow1 (H0++[some (Blk.cells q0 (67+1))]) (fun b=>n1≤b) lv (eS x.labels):=ow.mono fun b hb hs=>⟨hs,(ak (by omega) _).trans (by rw [←hH0];exact ak hb _)⟩
   simp only [Nat.reduceAdd] at f0 e30 ow0;have cq0: ∀(h:AH) (κ:Ka),cmp cD (U64 1) (.int 18446744073709551615 0) h κ=κ (.bool false) h:=fun _ _=>(by rfl)
   have cq2: ∀(h:AH) (κ:Ka),cmp cD (U64 1) (.int 18446744073709551615 2) h κ=κ (.bool false) h:=fun _ _=>(by rfl)
   refine de (ni mx _) ?_;simp only [sy,A7,seval,kZ,rP,n64,g1,ix,lGc,z0,t0,ix00,lG00,zv,t1,cq0,cq2,rT,w1];refine de (ni mx _) ?_;simp only [sy,A7,seval,kZ,n64,g2];have kk:=k _ lv (.pto hc.length 0) (.pto H0.length 0) (.bool false) (U64 1) (.bool false) (.bool false) f0 (by rw [hp1];exact e30) ow0;exact kk
  ·obtain ⟨p,hp2⟩: ∃p:Nat,x.ptr=(p:Int):=⟨x.ptr.toNat,by omega⟩
   have hp3:p<16384:=by have:=ok.ptr;omega
   unfold aic at T;rw [if_neg hp,hp2] at T;obtain ⟨dv,kv1,rfl,D,lD,lK,len1,kid1⟩:=T.kids;obtain ⟨q0,P0,T0,ix0,lP0,lG0,ld0⟩:=kid1 0 _ rfl;have q04:=T0.four;unfold lf at T0;obtain ⟨dv0,kv0,rfl,D0,_,_,_,_⟩:=T0.kids;have lGc:=lG hc oc;have z0: ∀κ:Ka,ay 4 (.pto hc.length 0) (.agg [U64 2,.bool false,dv,kv1]) (hc++[some (.cells [.int 18446744073709551615 0,.bool false,.aa,.aa] (67+1))]) κ=κ (.tup []) (hc++[some (.cells [U64 2,.bool false,dv,kv1] (67+1))]):=fun κ=>bD rfl rfl q4.2
   have t0:=aD hc (some (Blk.cells [U64 2,.bool false,dv,kv1] (67+1)));simp only [Nat.reduceAdd] at z0 t0;have ix00: ∀(k:Nat) (h':AH) (κ:Ka),bM 4 kv1 (.int k 0) h' κ=κ P0 h':=ix0
   generalize hH0:hc++[some (Blk.cells [U64 2,.bool false,dv,kv1] (67+1))]=H0 at*
   have l0:H0.length=hc.length+1:=by rw [←hH0];simp
   have o0:Old h H0:=by rw [←hH0];exact oc.app _
   have lG00:=lG0 H0 o0;obtain ⟨q0,hq0⟩: ∃q0,q0=[U64 (49152+(p:Int).toNat),.bool false,dv0,kv0]:=⟨_,rfl⟩;rw [←hq0] at lG00 q04;have zv: ∀κ:Ka,ay 4 (.pto H0.length 0) (.agg q0) (H0++[some (.cells [.int 18446744073709551615 0,.bool false,.aa,.aa] (67+1))]) κ=κ (.tup []) (H0++[some (.cells q0 (67+1))]):=fun κ=>bD rfl q04.1 q04.2
   simp only [Nat.reduceAdd] at zv
   generalize hH1:H0++[some (Blk.cells q0 (67+1))]=H1 at*
   simp only [Nat.reduceAdd] at hH1;have l1:H1.length=hc.length+2:=by rw [←hH1];simp [l0]
   have t1:ab H1 hc.length=_:=(by rw [←hH1];exact ak (by omega) _:ab H1 hc.length=ab H0 hc.length).trans t0
   have t2:ab H1 H0.length=some (Blk.cells q0 (67+1)):=by rw [←hH1];exact aD _ _
   simp only [Nat.reduceAdd] at t1 t2;have f1: ∀i,i<hc.length→ab H1 i=ab hc i:=fun i hi=>by rw [←hH1,ak (by omega),←hH0,ak hi]
   have e31:ab H1 b3=_:=(f1 b3 lc).trans e3;have cq0: ∀(h:AH) (κ:Ka),cmp cD (U64 2) (.int 18446744073709551615 0) h κ=κ (.bool false) h:=fun _ _=>(by rfl)
   have cq2: ∀(h:AH) (κ:Ka),cmp cD (U64 2) (.int 18446744073709551615 2) h κ=κ (.bool true) h:=fun _ _=>(by rfl)
   have an: ∀(h:AH) (κ:Ka),pS 18446744073709551615 18446744073709551615 Nat.land (U64 (49152+p)) (.int 18446744073709551615 16383) h κ=κ (U64 p) h:=fun h κ=>by
    unfold U64;rw [yY,qg (by omega),show toU 18446744073709551615 16383=16383 from aq5 (by decide) (by decide),anM hp3,gv (by omega) (by omega)]
   have cv: ∀(h:AH) (κ:Ka),cvI 9223372036854775807 (U64 p) h κ=κ (N64 p) h:=fun h κ=>by
    unfold U64 N64;rw [vW,bp (by omega) (by omega)]
   have hq:q0=[U64 (49152+p),.bool false,dv0,kv0]:=hq0;rw [hq] at t2;refine de (ni mx _) ?_;simp only [sy,A7,seval,kZ,rP,n64,g1,ix,lGc,z0,t0,ix00,lG00,zv,t1,cq0,cq2,t2,an,cv,e31];simp only [sy,A7,seval,rT,w1];refine de (ni mx _) ?_;simp only [sy,A7,seval,kZ,n64,g2];refine k _ lv (.pto hc.length 0) (.pto H0.length 0) (.bool false) (U64 2) (.bool false) (.bool true) ?_ ?_ ?_
   ·exact fx.trans ⟨by rw [Bb];omega,fun i hi hn=>by rw [ae (Ne.symm hn)];exact f1 i hi⟩
   ·rw [aq (by omega),hp2]
   ·exact ow.mono fun b hb' hs=>⟨hs,by rw [ae (by omega)];exact f1 b hb'⟩
 |cons l R ih=>
  intro A f hc lv v5 g d v20 e c hA hf fx e3 ow k;obtain ⟨f,rfl⟩:=fuel hf;have hlen:=ok.len;have hall:x.labels.length=A.length+(R.length+1):=by rw [hA];simp
  have hkl:(mc x)[A.length]? =some (adW l):=by unfold mc;rw [Bj (by simp;omega),hA];simp
  have lb: ∀b∈l,b<256:=ok.bytes l (by rw [hA];simp)
  obtain ⟨q,P,T,ix,lP,lG,ld⟩:=hk _ _ hkl;have oc:Old h hc:=Old.pW o hb fx;have lc:=aJ e3;have g1:decide ((A.length:Int)<((x.labels.length+1:Nat):Int))=true:=by rw [decide_eq_true_iff];omega
  have w1:aQ 9223372036854775807 ((A.length:Int)+1)=(((A++[l]).length:Nat):Int):=by rw [bp (by omega) (by omega)];simp
  have q4:=T.four;unfold adW at T;obtain ⟨dv,kv1,rfl,D,lD,lK,len1,kid1⟩:=T.kids;obtain ⟨q0,P0,T0,ix0,lP0,lG0,ld0⟩:=kid1 0 _ rfl;have q04:=T0.four;obtain ⟨dv0,kv0,rfl,D0,_,_,_,kid0⟩:=T0.kids;obtain ⟨qd,Pd,Td,ixd,lPd,lGd,ldd⟩:=kid0 1 _ rfl;obtain ⟨dd,kd,rfl,Dd,lDd,_,_,_⟩:=Td.kids;obtain ⟨Md,mvd,_,_,ldM⟩:=ldd 2 _ rfl;have lGc:=lG hc oc;have z0: ∀κ:Ka,ay 4 (.pto hc.length 0) (.agg [U64 0,.bool false,dv,kv1]) (hc++[some (.cells [.int 18446744073709551615 0,.bool false,.aa,.aa] (67+1))]) κ=κ (.tup []) (hc++[some (.cells [U64 0,.bool false,dv,kv1] (67+1))]):=fun κ=>bD rfl rfl q4.2
  have t0:=aD hc (some (Blk.cells [U64 0,.bool false,dv,kv1] (67+1)));simp only [Nat.reduceAdd] at z0 t0;have ix00: ∀(k:Nat) (h':AH) (κ:Ka),bM 4 kv1 (.int k 0) h' κ=κ P0 h':=ix0;have ixd1: ∀(k:Nat) (h':AH) (κ:Ka),bM 4 kv0 (.int k 1) h' κ=κ Pd h':=ixd
  generalize hH0:hc++[some (Blk.cells [U64 0,.bool false,dv,kv1] (67+1))]=H0 at*
  have l0:H0.length=hc.length+1:=by rw [←hH0];simp
  have o0:Old h H0:=by rw [←hH0];exact oc.app _
  have lG00:=lG0 H0 o0;have zv: ∀κ:Ka,ay 4 (.pto H0.length 0) (.agg [U64 0,.bool false,dv0,kv0]) (H0++[some (.cells [.int 18446744073709551615 0,.bool false,.aa,.aa] (67+1))]) κ=κ (.tup []) (H0++[some (.cells [U64 0,.bool false,dv0,kv0] (67+1))]):=fun κ=>bD rfl q04.1 q04.2
  simp only [Nat.reduceAdd] at zv
  generalize hH1:H0++[some (Blk.cells [U64 0,.bool false,dv0,kv0] (67+1))]=H1 at*
  simp only [Nat.reduceAdd] at hH1;have l1:H1.length=hc.length+2:=by rw [←hH1];simp [l0]
  have o1:Old h H1:=by rw [←hH1];exact o0.app _
  have t1:ab H1 hc.length=_:=(by rw [←hH1];exact ak (by omega) _:ab H1 hc.length=ab H0 hc.length).trans t0
  have t2:ab H1 H0.length=some (Blk.cells [U64 0,.bool false,dv0,kv0] (67+1)):=by rw [←hH1];exact aD _ _
  simp only [Nat.reduceAdd] at t1 t2;have f1: ∀i,i<hc.length→ab H1 i=ab hc i:=fun i hi=>by rw [←hH1,ak (by omega),←hH0,ak hi]
  have e31:ab H1 b3=_:=(f1 b3 lc).trans e3;have cq0: ∀(h:AH) (κ:Ka),cmp cD (U64 0) (.int 18446744073709551615 0) h κ=κ (.bool true) h:=fun _ _=>(by rfl)
  have ldM1:=ldM H1 o1;have st: ∀κ:Ka,dD dd H1 κ=κ (.str l) H1:=fun κ=>zk ((Dd.mono (S':=S) (h':=H1) fun b hb hs=>⟨hs,o1.2 b hb⟩).at) lb κ
  have owb:Ow1 (H1++[some (.cells [.str l] 0)]) (fun b=>n1≤b) lv (eS A):=ow.mono fun b hb' hs=>⟨hs,by rw [ak (by omega)];exact f1 b hb'⟩
  have sx:cW (H1++[some (.cells [.str l] 0)]) (.slo H1.length 0 1 1 1 true) [.str l]:=.inr (.inr ⟨H1.length,0,1,[.str l],0,true,rfl,aD _ _,rfl,by simp⟩);obtain ⟨lv',h',a1,a2,a3,a4⟩:=owb.app (9+1) (by_:=16) (by decide) sx rfl (by rw [rK];omega);simp only [Nat.reduceAdd] at a1;rw [A7,l1] at a3;simp only [Br,CK] at a3;have e32:ab h' b3=_:=(a4 b3 (by omega) (by rw [A7];omega)).trans ((ak (by omega) _).trans e31);have ble:Nat.ble (ag (H1++[some (.cells [.str l] 0)])) (ag h')=true:=by rw [cq,ah,ah,decide_eq_true_iff,A7,l1];simp;omega
  have pl:=a2.plain;refine de (ni mx _) ?_;simp only [sy,A7,seval,kZ,rP,ahw,n64,g1,ix,lGc,z0,t0,ix00,lG00,zv,t1,cq0,t2,e31,ixd1,mvd,ldM1,st,abU,a1,ble,e32,pl];simp only [sy,A7,seval,rT,w1,cq,ah,Bb];have fxs:Fx b3 H (h'.set b3 (some (.cells [lv',.int 9223372036854775807 (-1)] y3))):=by
   have:=fx.1
   refine ⟨by rw [Bb];omega,fun i hi hn=>?_⟩
   rw [ae (Ne.symm hn),a4 i (by omega) (by rw [A7];omega),ak (by omega),f1 i (by omega)]
   exact fx.2 i hi hn
  have kk:=ih (A++[l]) (f+(R.length+1+3)) (h'.set b3 (some (.cells [lv',.int 9223372036854775807 (-1)] y3))) lv' (.pto hc.length 0) (.pto H0.length 0) (.bool true) (U64 0) (.bool true) c (by rw [hA];simp) (by omega) fxs (by rw [aq (by omega)]) (by
   rw [ya];refine a2.mono fun b hb' hs=>⟨?_,by
    have:n1≤b:=by
     rcases hs with hs|rfl
     ·exact hs
     ·rw [A7];have:=fx.1;omega
    rw [ae (by omega)]⟩
   rcases hs with hs|rfl
   ·exact hs
   ·rw [A7];have:=fx.1;omega) k
  rw [show (A++[l]).length=A.length+1 by simp] at kk;exact kk
theorem xQ {q:List AV} {x:kQ} (ok:NOk x) (T:eX h S q (fU x)) (f:Nat):
 aL (fun r h'=>Old h h'∧ ∃lv pv,r= .agg [lv,pv]∧sL h' (fun b=>h.length≤b) lv pv x) ((rl (CL mx) (f+x.labels.length+6)).run 27 [.agg q] h):=by
 refine aL.runs (n:=f+x.labels.length+5) (aoz mx _ _ _ _) ?_;have q4:=T.four;unfold fU at T;obtain ⟨dv,kv,rfl,D,lD,lK,lens,kids⟩:=T.kids;obtain ⟨B1,hB1⟩: ∃B,B=Blk.cells [U64 0,.bool false,dv,kv] (67+1):=⟨_,rfl⟩;obtain ⟨B2,hB2⟩: ∃B,B=Blk.cells [.aa,.int 9223372036854775807 0] (47+1):=⟨_,rfl⟩;obtain ⟨B3,hB3⟩: ∃B,B=Blk.cells [.aa,.int 9223372036854775807 (-1)] (47+1):=⟨_,rfl⟩;have s1:=hB1;have s2:=hB2;have s3:=hB3;simp only [Nat.reduceAdd] at s1 s2 s3;obtain ⟨H2,hH2⟩: ∃H,H=h++[some B1]++[some B2]:=⟨_,rfl⟩;have l1:(h++[some B1]).length=h.length+1:=by simp
 have l2:H2.length=h.length+2:=by rw [hH2];simp
 obtain ⟨H3,hH3⟩: ∃H,H=H2++[some B3]:=⟨_,rfl⟩;have l3:H3.length=h.length+3:=by rw [hH3,A7,l2];rfl
 have o2:Old h H2:=by rw [hH2];exact (Old.rfl.app _).app _
 have o3:Old h H3:=by rw [hH3];exact o2.app _
 have b1:ab H3 h.length=some B1:=by rw [hH3,ak (by omega),hH2,ak (by simp),aD]
 have b2:ab H3 (h.length+1)=some B2:=by
  rw [hH3,ak (by omega),hH2]
  have:=aD (h++[some B1]) (some B2)
  rwa [l1] at this
 have b3:ab H3 H2.length=some B3:=by rw [hH3];exact aD _ _
 have z3: ∀κ:Ka,ay 2 (.pto H2.length 0) (.agg [.aa,.int 9223372036854775807 (-1)]) (H2++[some B2]) κ=κ (.tup []) H3:=fun κ=>by rw [hH3,hB3,hB2];exact bD rfl rfl rfl
 have bl: ∀(h:AH) (κ:Ka),dX (placeOf (CL mx) [(0,45),(1,3)]) [.aa,.int 9223372036854775807 0] [(1,(.int 9223372036854775807 (-1)))] h κ=κ (.agg [.aa,.int 9223372036854775807 (-1)]) h:=fun h κ=>cZ (by kernel_rfl)
 have lens': ∀(h':AH) (κ:Ka),bG kv h' κ=κ (N64 (x.labels.length+1)) h':=fun h' κ=>by
  rw [lens];unfold mc;rw [A7,BI];rfl
 rw [ahE];simp only [dK,eB,bqT,show (AV.agg [U64 0,.bool false,dv,kv]).nb=true from rfl,show (AV.agg [U64 0,.bool false,dv,kv]).cells=[U64 0,.bool false,dv,kv] from rfl,←s1,←s2,l1,←hH2];refine wEq (bl _ _) ?_;refine wEq (z3 _) ?_;rw [hB1] at b1;simp only [sy,A7,seval,ah6,b1,lens'];refine an5 (mx:=mx) ok o3 (b3:=H2.length) (y3:=47+1) (n1:=H3.length) (by omega) (by omega) rfl kids _ _ _ x.labels [] _ H3 .aa _ _ _ _ _ _ rfl (by omega) Fx.rfl (by rw [b3,hB3]) (.inl ⟨rfl,rfl⟩) fun h' lv v5 g d v20 e c fx e3 ow=>?_
 have f1:=fx.1;have c2:ab h' (h.length+1)=_:=(fx.2 (h.length+1) (by omega) (by omega)).trans b2;rw [hB2] at c2;have pl:=ow.plain;have st: ∀κ:Ka,ay 2 (.pto (h.length+1) 0) (.agg [lv,.int 9223372036854775807 x.ptr]) h' κ=κ (.tup []) (h'.set (h.length+1) (some (.cells [lv,.int 9223372036854775807 x.ptr] (47+1)))):=fun κ=>bB (n:=2) (q:=[lv,.int 9223372036854775807 x.ptr]) c2 rfl rfl (by show and lv.plain (and true true)=true;rw [pl];rfl) κ
 have ld: ∀κ:Ka,aF 2 (.pto H2.length 0) h' κ=κ (.agg [lv,.int 9223372036854775807 x.ptr]) h':=fun κ=>bg (n:=2) e3 rfl κ
 have ld2: ∀κ:Ka,aF 2 (.pto (h.length+1) 0) (h'.set (h.length+1) (some (.cells [lv,.int 9223372036854775807 x.ptr] (47+1)))) κ=κ (.agg [lv,.int 9223372036854775807 x.ptr]) _:=fun κ=>bg (n:=2) (aq (by omega) _) rfl κ
 simp only [mW,decide_true,bqT];refine wEq (agX ..) ?_;refine wEq (ld _) ?_;refine wEq (st _) ?_;rw [iQ,ak1];refine wEq (ld2 _) ?_;refine Ends.mk ⟨?_,lv,_,rfl,rfl,?_⟩
 ·exact (Old.pW o3 (b:=H2.length) (by omega) fx).set (by omega) _
 ·exact ow.mono fun b hb hs=>⟨by omega,by rw [ae (by omega)]⟩
end
noncomputable section
def ptpC:AV→List AV
 | .ptp c _=>c
 |_=>[]
def slpC:AV→List AV
 | .slp c _=>c
 |_=>[]
def ppC:List AV:=slpC ((ptpC eV).headD .nil)
def ppR:List AV:=(ptpC eV).drop 5
def HN:AH:=mg.2.2.2
def HZ:AH:=[some (.cells [N64 1048576,N64 400,N64 1048576] (38+1)),some (.cells [.int 65535 0,.int 65535 0,.aa,.aa,.aa,.aa] (29+1)),some (.cells [.int 9223372036854775807 0,.int 9223372036854775807 0] (32+1)),some (.cells [N64 1048576,N64 400,N64 1048576] (38+1)),some (.cells ZT (67+1)),some (.cells [.int 9223372036854775807 0,.int 9223372036854775807 0] (32+1))]
def HR:AH:=uH.2.2.2
def blkL:Option Blk→List AV
 |some (.cells cs _)=>cs
 |_=>[]
def iC (i:Nat):AV:=(blkL (ab HR 3)).getD i .nil
def awi (q:PS):AV:=match q.ways with
 |[]=>.aa
 |w=>.slp (w.map wL).flatten w.length
def bsOf (q:PS):List AV:=if q.kind=14 then aI q.bytes else List.replicate 256 (.int 255 0)
def rowOf (q:PS):List AV:=stC q (awi q) (bsOf q)
end
section
variable {mx:Int} {h h' h1:AH} {m:Nat} {S:Nat→Prop} {Q:Option Rs→Prop} {κn:Kt} {κx:Ex→Kt}
theorem awV:eV= .ptp [.slp ppC 60,N64 15,N64 0,N64 0,.aa,ppR.headD .nil] 0:=by kernel_rfl
theorem aiB (f:Nat):aL (fun r h'=>r= .pto 6 0∧h'=HN) ((rl (CL mx) (f+1)).run 6 [] []):=⟨_,_,by kernel_rfl,rfl,rfl⟩
theorem amA (f:Nat):(rl (CL mx) (f+4)).run 54 [.pto 3 0] (HN++HZ)=some (.agg [N64 0,N64 0],HR):=by kernel_rfl
theorem ax9:It HR 3 eV fL:=⟨iC 0,iC 1,iC 2,iC 3,iC 5,iC 6,iC 9,iC 10,iC 11,iC 15,1,0,0,0,0,0,165+1,by kernel_rfl⟩
set_option maxRecDepth 1000000 in
theorem asd:ppC=(DP.map rowOf).flatten:=by kernel_rfl
set_option maxRecDepth 1000000 in
theorem axK:((DP.map rowOf).all fun r=>decide (r.length=265)&&aO r)=true:=by kernel_rfl
theorem asl {z:Nat} {rows:List (List AV)} (hr: ∀r∈rows,r.length=z) {i:Nat} {q:List AV} (hq:rows[i]? =some q):(rows.flatten.drop (i*z)).take z=q∧i*z+z≤rows.flatten.length:=by
 obtain ⟨A,B,rfl,hA⟩:=jf hq;have hAl:A.flatten.length=i*z:=by rw [mb fun r h=>hr r (by simp [h]),hA]
 have hql:q.length=z:=hr q (by simp);have e:(A++q::B).flatten=A.flatten++(q++B.flatten):=by simp
 rw [e,←hAl,CS,←hql,C2];refine ⟨rfl,by simp⟩
theorem aqi (i:Nat) (q:PS) (e:DP[i]? =some q):qm m h (.slp ppC 60) i q:=by
 have all:=BG.1 axK;have hq:(DP.map rowOf)[i]? =some (rowOf q):=by rw [Bn,e];rfl
 have hi:i<60:=(Bc.1 e).1;obtain ⟨g1,g2⟩:=asl (z:=265) (fun r hr=>by have:=all r hr;simp only [Ba,decide_eq_true_iff] at this;exact this.1) hq;have gq:=all _ (Bg hq);simp only [Ba,decide_eq_true_iff] at gq;refine ⟨.ptp ppC (i*265),awi q,bsOf q,fun k h' κ=>?_,fun h' _ κ=>?_,gq.1,gq.2,?_,fun c=>if_pos c⟩
 ·rw [yz,decide_eq_true hi];rfl
 ·rw [yW,asd,g1,decide_eq_true g2];rfl
 ·unfold awi
  cases q.ways with
  |nil=>exact .inl OwR.nil
  |cons w ws=>exact .inr ⟨fun r hr=>by
   obtain ⟨x,_,rfl⟩:=Cg.1 hr;rfl,by show _=AV.slp _ _;simp⟩
end
noncomputable section
def az (v0 v1 v2 v5 O v7 M v9 v10 j u g D v46 v47 E l v76 F I J G t:AV):Tm:=(.nd 15 (.nd 7 (.nd 2 (.nd 1 (.lf 0 v0) (.lf 1 v1)) (.nd 5 (.lf 2 v2) (.nd 6 (.lf 5 v5) (.lf 6 O)))) (.nd 10 (.nd 8 (.lf 7 v7) (.nd 9 (.lf 8 M) (.lf 9 v9))) (.nd 12 (.lf 10 v10) (.nd 13 (.lf 12 j) (.lf 13 u))))) (.nd 76 (.nd 47 (.nd 26 (.lf 15 g) (.nd 46 (.lf 26 D) (.lf 46 v46))) (.nd 48 (.lf 47 v47) (.nd 49 (.lf 48 E) (.lf 49 l)))) (.nd 86 (.nd 77 (.lf 76 v76) (.nd 85 (.lf 77 F) (.lf 85 I))) (.nd 87 (.lf 86 J) (.nd 88 (.lf 87 G) (.lf 88 t))))))
def acY (mx:Int):K:=kAt [] (kOf (CL mx) 7)
def aoV (mx:Int):K:=kAt [1,0] (kOf (CL mx) 7)
def akj (mx:Int):K:=kAt [1,1] (kOf (CL mx) 7)
def ajP (mx:Int):K:=kAt [1,1,0] (kOf (CL mx) 7)
def adK (mx:Int):K:=kAt [1,1,1] (kOf (CL mx) 7)
def anW (mx:Int):K:=kAt [1,1,0,1,0,0] (kOf (CL mx) 7)
def ang (mx:Int):K:=kAt [1,1,0,1,0,1] (kOf (CL mx) 7)
def anr (mx:Int):K:=kAt [1,1,1,0] (kOf (CL mx) 7)
def amp (mx:Int):K:=kAt [1,1,1,1] (kOf (CL mx) 7)
def aki (mx:Int):K:=kAt [1,1,1,1,0] (kOf (CL mx) 7)
def afh (mx:Int):K:=kAt [1,1,1,1,1] (kOf (CL mx) 7)
def yX (mx:Int):K:=kAt [1,1,1,1,0,1,0,0] (kOf (CL mx) 7)
def aew (mx:Int):K:=kAt [1,1,1,1,1,0] (kOf (CL mx) 7)
def zE (mx:Int):K:=kAt [1,1,1,1,1,1] (kOf (CL mx) 7)
def af8 (mx:Int):K:=kAt [1,1,1,1,0,1,0,0,1,1,0] (kOf (CL mx) 7)
def agn (mx:Int):K:=kAt [1,1,1,1,0,1,0,0,1,1,1] (kOf (CL mx) 7)
def tL (mx:Int):K:=kAt [1,1,1,1,1,0,1,0,0] (kOf (CL mx) 7)
def aeN (mx:Int):K:=kAt [1,1,1,1,0,1,0,0,1,1,0,0,1] (kOf (CL mx) 7)
def agB (mx:Int):K:=kAt [1,1,1,1,1,0,1,0,0,1,1,0] (kOf (CL mx) 7)
def afQ (mx:Int):K:=kAt [1,1,1,1,1,0,1,0,0,1,1,1] (kOf (CL mx) 7)
def yR (mx:Int):K:=kAt [1,1,1,1,1,0,1,0,0,1,1,0,0,1,1,0,0] (kOf (CL mx) 7)
def afX (mx:Int):K:=kAt [1,1,1,1,1,0,1,0,0,1,1,0,0,1,1,0,0,1,1,0] (kOf (CL mx) 7)
def aga (mx:Int):K:=kAt [1,1,1,1,1,0,1,0,0,1,1,0,0,1,1,0,0,1,1,1] (kOf (CL mx) 7)
def aeO (mx:Int):K:=kAt [1,1,1,1,1,0,1,0,0,1,1,0,0,1,1,0,0,1,1,0,0,1] (kOf (CL mx) 7)
section
set_option maxRecDepth 100000
variable (mx:Int) (run:Run) (lp:Lp) (κn:Kt) (κx:Ex→Kt) (h:AH) (v0 v1 v2 v5 O v7 M v9 v10 j u g D v46 v47 E l v76 F I J G t:AV)
theorem aiD:kc (CL mx) run lp (acY mx) ⟨az v0 v1 v2 v5 O v7 M v9 v10 j u g D v46 v47 E l v76 F I J G t,h⟩ κn κx=fQ 39 v2 h (fun a0 h=>cU h (.cells [.int 65535 0,.int 65535 0,.aa,.aa,.aa,.aa] 30) (fun a1 h=>cU h (.cells [.int 9223372036854775807 0,.int 9223372036854775807 0] 33) (fun a2 h=>kc (CL mx) run lp (aoV mx) ⟨az v0 v1 v2 a0 a1 a2 M v9 v10 j u g D v46 v47 E l v76 F I J G t,h⟩ (fun s=>kc (CL mx) run lp (akj mx) s κn κx) κx))):=by kernel_rfl
theorem ajc:kc (CL mx) run lp (aoV mx) ⟨az v0 v1 v2 v5 O v7 M v9 v10 j u g D v46 v47 E l v76 F I J G t,h⟩ κn κx=kcR κn κx (dr (sRd [] h (aW v0 h kVH) fun r0=>sEf [r0.v] r0.h' (aP kVH (aH (CL mx) run 25 [r0.v] r0.h')) fun r1=>sRd [r1.v,r0.v] r1.h' (aW v1 r1.h' kVH) fun r2=>sRd [r2.v,r1.v,r0.v] r2.h' (aF 3 v5 r2.h' kVH) fun r3=>sEf [r3.v,r2.v,r1.v,r0.v] r3.h' (aP kVH (aH (CL mx) run 26 [r1.v,r2.v,r3.v] r3.h')) fun r4=>sRd [r4.v,r3.v,r2.v,r1.v,r0.v] r4.h' (aW r4.v r4.h' kVH) fun r5=>sRd [r5.v,r4.v,r3.v,r2.v,r1.v,r0.v] r5.h' (fu 0 r5.v r5.h' kVH) fun r6=>sRd [r6.v,r5.v,r4.v,r3.v,r2.v,r1.v,r0.v] r6.h' (fu 1 r5.v r6.h' kVH) fun r7=>sMk [r7.v,r6.v,r5.v,r4.v,r3.v,r2.v,r1.v,r0.v] r7.h' (fun h=>cU h (.cells [.int 18446744073709551615 0,.bool false,.aa,.aa] 68) kVH) fun r8=>sMk [r8.v,r7.v,r6.v,r5.v,r4.v,r3.v,r2.v,r1.v,r0.v] r8.h' (fun h=>cU h (.cells [.int 9223372036854775807 0,.int 9223372036854775807 0] 33) kVH) fun r9=>sEf [r9.v,r8.v,r7.v,r6.v,r5.v,r4.v,r3.v,r2.v,r1.v,r0.v] r9.h' (ay 4 r8.v r6.v r9.h' kVH) fun r10=>sEf [r10.v,r9.v,r8.v,r7.v,r6.v,r5.v,r4.v,r3.v,r2.v,r1.v,r0.v] r10.h' (ay 2 r9.v r7.v r10.h' kVH) fun r11=>bq (and (aG r2 (OK.f (.mk (o1 aW (.tr 1))) (CL mx) run r2.σ (az v0 v1 v2 v5 O v7 M v9 v10 j u g D v46 v47 E l v76 F I J G t) (aN (ag r2.h) r1.h) kVH)) (and (aG r3 (OK.f (.mk (o1 (aF 3) (.tr 5))) (CL mx) run r3.σ (az v0 v1 v2 v5 O v7 M v9 v10 j u g D v46 v47 E l v76 F I J G t) (aN (ag r3.h) r1.h) kVH)) (and (aG r7 (OK.f (.mk (o1 (fu 1) (.st 1))) (CL mx) run r7.σ (az v0 v1 v2 v5 O v7 M v9 v10 j u g D v46 v47 E l v76 F I J G t) (aN (ag r7.h) r10.h') kVH)) (true)))) (some (.st (az v0 v1 v2 v5 O v7 r8.v r9.v v10 j u g D v46 v47 E l v76 F I J G t) r11.h')) none)):=(eW (C:=CL mx) [1,0] 7 [0,1,2,5,6,7,8,9,10,12,13,15,26,46,47,48,49,76,77,85,86,87,88] (by kernel_rfl) _ _ _).trans (by kernel_rfl)
theorem ahu:kc (CL mx) run lp (akj mx) ⟨az v0 v1 v2 v5 O v7 M v9 v10 j u g D v46 v47 E l v76 F I J G t,h⟩ κn κx=kc (CL mx) run lp (ajP mx) ⟨az v0 v1 v2 v5 O v7 M v9 v10 j u g D v46 v47 E l v76 F I J G t,h⟩ (fun s=>kc (CL mx) run lp (adK mx) s κn κx) κx:=by kernel_rfl
theorem aiM:kc (CL mx) run lp (ajP mx) ⟨az v0 v1 v2 v5 O v7 M v9 v10 j u g D v46 v47 E l v76 F I J G t,h⟩ κn κx=aj 0 v9 h (fun a0 h=>ao a0 h (fun a1 h=>cmp ine a1 (.int 9223372036854775807 0) h (fun a2 h=>bJ a2 (kc (CL mx) run lp (anW mx) ⟨az v0 v1 v2 v5 O v7 M v9 v10 j u g a2 v46 v47 E l v76 F I J G t,h⟩ (fun s=>kc (CL mx) run lp (ang mx) s κn κx) κx) (κn ⟨az v0 v1 v2 v5 O v7 M v9 v10 j u g a2 v46 v47 E l v76 F I J G t,h⟩)))):=by kernel_rfl
theorem ahH:kc (CL mx) run lp (adK mx) ⟨az v0 v1 v2 v5 O v7 M v9 v10 j u g D v46 v47 E l v76 F I J G t,h⟩ κn κx=kc (CL mx) run lp (anr mx) ⟨az v0 v1 v2 v5 O v7 M v9 v10 j u g D v46 v47 E l v76 F I J G t,h⟩ (fun s=>kc (CL mx) run lp (amp mx) s κn κx) κx:=by kernel_rfl
theorem ajz:kc (CL mx) run lp (anW mx) ⟨az v0 v1 v2 v5 O v7 M v9 v10 j u g D v46 v47 E l v76 F I J G t,h⟩ κn κx=kcR κn κx (dr (sRd [] h (dX (placeOf (CL mx) [(0,24),(1,24),(2,25),(3,27)]) [.int 65535 0,.int 65535 0,.aa,.aa,.aa,.aa] [] h kVH) fun r0=>sRd [r0.v] r0.h' (aF 2 v9 r0.h' kVH) fun r1=>sEf [r1.v,r0.v] r1.h' (ay 6 O r0.v r1.h' kVH) fun r2=>sEf [r2.v,r1.v,r0.v] r2.h' (ay 2 v7 r1.v r2.h' kVH) fun r3=>bq (and (aG r1 (OK.f (.mk (o1 (aF 2) (.tr 9))) (CL mx) run r1.σ (az v0 v1 v2 v5 O v7 M v9 v10 j u g D v46 v47 E l v76 F I J G t) (aN (ag r1.h) r2.h') kVH)) (true)) (some (.st (az v0 v1 v2 v5 O v7 M v9 v10 j u g D v46 v47 E l v76 F I J G t) r3.h')) none)):=(eW (C:=CL mx) [1,1,0,1,0,0] 7 [0,1,2,5,6,7,8,9,10,12,13,15,26,46,47,48,49,76,77,85,86,87,88] (by kernel_rfl) _ _ _).trans (by kernel_rfl)
theorem ahp:kc (CL mx) run lp (ang mx) ⟨az v0 v1 v2 v5 O v7 M v9 v10 j u g D v46 v47 E l v76 F I J G t,h⟩ κn κx=κx .ret ⟨az v0 v1 v2 v5 O v7 M v9 v10 j u g D v46 v47 E l v76 F I J G t,h⟩:=by kernel_rfl
theorem aiK:kc (CL mx) run lp (anr mx) ⟨az v0 v1 v2 v5 O v7 M v9 v10 j u g D v46 v47 E l v76 F I J G t,h⟩ κn κx=aj 3 M h (fun a0 h=>ao a0 h (fun a1 h=>bM 4 a1 (.int 9223372036854775807 0) h (fun a2 h=>aj 0 a2 h (fun a3 h=>ao a3 h (fun a4 h=>cvI 65535 a4 h (fun a5 h=>aj 3 M h (fun a6 h=>ao a6 h (fun a7 h=>bM 4 a7 (.int 9223372036854775807 1) h (fun a8 h=>aj 0 a8 h (fun a9 h=>ao a9 h (fun a10 h=>cvI 65535 a10 h (fun a11 h=>dX (placeOf (CL mx) [(0,24),(1,24),(2,25),(3,27)]) [.int 65535 0,.int 65535 0,.aa,.aa,.aa,.aa] [(0,a5),(1,a11)] h (fun a12 h=>cU h (.cells [.int 65535 0,.int 65535 0,.aa,.aa,.aa,.aa] 30) (fun a13 h=>ay 6 a13 a12 h (fun a14 h1=>bq (Nat.ble (ag h) (ag h1)) ((fun h=>κn ⟨az v0 v1 v2 v5 O v7 M v9 a13 j u g D v46 v47 E l v76 F I J G t,h⟩) h1) none))))))))))))))):=(cA (C:=CL mx) (ops:=opsOf (cAt [1,1,1,0] (bS (CL mx) 7))) (ps:=[0,1,2,5,6,7,8,9,10,12,13,15,26,46,47,48,49,76,77,85,86,87,88]) (by kernel_rfl) (by kernel_rfl) _ _ _).trans (by kernel_rfl)
theorem aiw:kc (CL mx) run lp (amp mx) ⟨az v0 v1 v2 v5 O v7 M v9 v10 j u g D v46 v47 E l v76 F I J G t,h⟩ κn κx=kc (CL mx) run lp (aki mx) ⟨az v0 v1 v2 v5 O v7 M v9 v10 j u g D v46 v47 E l v76 F I J G t,h⟩ (fun s=>kc (CL mx) run lp (afh mx) s κn κx) κx:=by kernel_rfl
theorem agP:kc (CL mx) run lp (aki mx) ⟨az v0 v1 v2 v5 O v7 M v9 v10 j u g D v46 v47 E l v76 F I J G t,h⟩ κn κx=aj 3 M h (fun a0 h=>ao a0 h (fun a1 h=>bM 4 a1 (.int 9223372036854775807 6) h (fun a2 h=>aj 3 a2 h (fun a3 h=>ao a3 h (fun a4 h=>bG a4 h (fun a5 h=>kcR κn (kcO 0 κn κx) (lp (yX mx) ⟨az v0 v1 v2 v5 O v7 M v9 v10 j u g D a4 a5 (.int 9223372036854775807 0) l v76 F I J G t,h⟩))))))):=by kernel_rfl
theorem adL:kc (CL mx) run lp (afh mx) ⟨az v0 v1 v2 v5 O v7 M v9 v10 j u g D v46 v47 E l v76 F I J G t,h⟩ κn κx=kc (CL mx) run lp (aew mx) ⟨az v0 v1 v2 v5 O v7 M v9 v10 j u g D v46 v47 E l v76 F I J G t,h⟩ (fun s=>kc (CL mx) run lp (zE mx) s κn κx) κx:=by kernel_rfl
theorem uD:kc (CL mx) run lp (yX mx) ⟨az v0 v1 v2 v5 O v7 M v9 v10 j u g D v46 v47 E l v76 F I J G t,h⟩ κn κx=cmp ilt E v47 h (fun a0 h=>bJ a0 (kc (CL mx) run lp (af8 mx) ⟨az v0 v1 v2 v5 O v7 M v9 v10 j u g D v46 v47 E a0 v76 F I J G t,h⟩ (fun s=>kc (CL mx) run lp (agn mx) s κn κx) κx) (κx (.exit 0) ⟨az v0 v1 v2 v5 O v7 M v9 v10 j u g D v46 v47 E a0 v76 F I J G t,h⟩)):=by kernel_rfl
theorem acB:kc (CL mx) run lp (aew mx) ⟨az v0 v1 v2 v5 O v7 M v9 v10 j u g D v46 v47 E l v76 F I J G t,h⟩ κn κx=kcR κn (kcO 2 κn κx) (lp (tL mx) ⟨az v0 v1 v2 v5 O v7 M v9 v10 j u g D v46 v47 E l (.int 9223372036854775807 0) F I J G t,h⟩):=by kernel_rfl
theorem aec:kc (CL mx) run lp (zE mx) ⟨az v0 v1 v2 v5 O v7 M v9 v10 j u g D v46 v47 E l v76 F I J G t,h⟩ κn κx=aF 6 v10 h (fun a0 h=>dX (placeOf (CL mx) [(0,30),(1,3)]) [.int 9223372036854775807 0,.int 9223372036854775807 0] [] h (fun a1 h=>ay 6 O a0 h (fun a2 h=>ay 2 v7 a1 h (fun a3 h=>κx .ret ⟨az v0 v1 v2 v5 O v7 M v9 v10 j u g D v46 v47 E l v76 F I J G t,h⟩)))):=by kernel_rfl
theorem adh:kc (CL mx) run lp (af8 mx) ⟨az v0 v1 v2 v5 O v7 M v9 v10 j u g D v46 v47 E l v76 F I J G t,h⟩ κn κx=bM 4 v46 E h (fun a0 h=>aF 4 a0 h (fun a1 h=>cU h (.cells [.int 18446744073709551615 0,.bool false,.aa,.aa] 68) (fun a2 h=>ay 4 a2 a1 h (fun a3 h=>kc (CL mx) run lp (aeN mx) ⟨az v0 v1 v2 v5 O v7 M v9 v10 a2 u g D v46 v47 E l v76 F I J G t,h⟩ κn (kcO 1 κn κx))))):=by kernel_rfl
theorem ac3:kc (CL mx) run lp (agn mx) ⟨az v0 v1 v2 v5 O v7 M v9 v10 j u g D v46 v47 E l v76 F I J G t,h⟩ κn κx=arith cg E (.int 9223372036854775807 1) h (fun a0 h=>κn ⟨az v0 v1 v2 v5 O v7 M v9 v10 j u g D v46 v47 a0 l v76 F I J G t,h⟩):=by kernel_rfl
theorem uS:kc (CL mx) run lp (tL mx) ⟨az v0 v1 v2 v5 O v7 M v9 v10 j u g D v46 v47 E l v76 F I J G t,h⟩ κn κx=cmp ilt v76 (.int 9223372036854775807 3) h (fun a0 h=>bJ a0 (kc (CL mx) run lp (agB mx) ⟨az v0 v1 v2 v5 O v7 M v9 v10 j u g D v46 v47 E l v76 a0 I J G t,h⟩ (fun s=>kc (CL mx) run lp (afQ mx) s κn κx) κx) (κx (.exit 2) ⟨az v0 v1 v2 v5 O v7 M v9 v10 j u g D v46 v47 E l v76 a0 I J G t,h⟩)):=by kernel_rfl
theorem adO:kc (CL mx) run lp (aeN mx) ⟨az v0 v1 v2 v5 O v7 M v9 v10 j u g D v46 v47 E l v76 F I J G t,h⟩ κn κx=kcR κn κx ((fun tt=>dr (sRd [] h (aj 2 v10 h kVH) fun r0=>sRd [r0.v] r0.h' (ao r0.v r0.h' kVH) fun r1=>sRd [r1.v,r0.v] r1.h' (aj 3 j r1.h' kVH) fun r2=>sRd [r2.v,r1.v,r0.v] r2.h' (ao r2.v r2.h' kVH) fun r3=>sRd [r3.v,r2.v,r1.v,r0.v] r3.h' (bM 4 r3.v (.int 9223372036854775807 0) r3.h' kVH) fun r4=>sRd [r4.v,r3.v,r2.v,r1.v,r0.v] r4.h' (aF 4 r4.v r4.h' kVH) fun r5=>sEf [r5.v,r4.v,r3.v,r2.v,r1.v,r0.v] r5.h' (aP kVH (aH (CL mx) run 27 [r5.v] r5.h')) fun r6=>sRd [r6.v,r5.v,r4.v,r3.v,r2.v,r1.v,r0.v] r6.h' (aj 3 j r6.h' kVH) fun r7=>sRd [r7.v,r6.v,r5.v,r4.v,r3.v,r2.v,r1.v,r0.v] r7.h' (ao r7.v r7.h' kVH) fun r8=>sRd [r8.v,r7.v,r6.v,r5.v,r4.v,r3.v,r2.v,r1.v,r0.v] r8.h' (bM 4 r8.v (.int 9223372036854775807 1) r8.h' kVH) fun r9=>sRd [r9.v,r8.v,r7.v,r6.v,r5.v,r4.v,r3.v,r2.v,r1.v,r0.v] r9.h' (aj 0 r9.v r9.h' kVH) fun r10=>sRd [r10.v,r9.v,r8.v,r7.v,r6.v,r5.v,r4.v,r3.v,r2.v,r1.v,r0.v] r10.h' (ao r10.v r10.h' kVH) fun r11=>sRd [r11.v,r10.v,r9.v,r8.v,r7.v,r6.v,r5.v,r4.v,r3.v,r2.v,r1.v,r0.v] r11.h' (cvI 65535 r11.v r11.h' kVH) fun r12=>sRd [r12.v,r11.v,r10.v,r9.v,r8.v,r7.v,r6.v,r5.v,r4.v,r3.v,r2.v,r1.v,r0.v] r12.h' (aj 3 j r12.h' kVH) fun r13=>sRd [r13.v,r12.v,r11.v,r10.v,r9.v,r8.v,r7.v,r6.v,r5.v,r4.v,r3.v,r2.v,r1.v,r0.v] r13.h' (ao r13.v r13.h' kVH) fun r14=>sRd [r14.v,r13.v,r12.v,r11.v,r10.v,r9.v,r8.v,r7.v,r6.v,r5.v,r4.v,r3.v,r2.v,r1.v,r0.v] r14.h' (bM 4 r14.v (.int 9223372036854775807 2) r14.h' kVH) fun r15=>sRd [r15.v,r14.v,r13.v,r12.v,r11.v,r10.v,r9.v,r8.v,r7.v,r6.v,r5.v,r4.v,r3.v,r2.v,r1.v,r0.v] r15.h' (aj 0 r15.v r15.h' kVH) fun r16=>sRd [r16.v,r15.v,r14.v,r13.v,r12.v,r11.v,r10.v,r9.v,r8.v,r7.v,r6.v,r5.v,r4.v,r3.v,r2.v,r1.v,r0.v] r16.h' (ao r16.v r16.h' kVH) fun r17=>sRd [r17.v,r16.v,r15.v,r14.v,r13.v,r12.v,r11.v,r10.v,r9.v,r8.v,r7.v,r6.v,r5.v,r4.v,r3.v,r2.v,r1.v,r0.v] r17.h' (cvI 65535 r17.v r17.h' kVH) fun r18=>sRd [r18.v,r17.v,r16.v,r15.v,r14.v,r13.v,r12.v,r11.v,r10.v,r9.v,r8.v,r7.v,r6.v,r5.v,r4.v,r3.v,r2.v,r1.v,r0.v] r18.h' (dX (placeOf (CL mx) [(0,47),(2,24),(3,24)]) [.aa,.int 9223372036854775807 0,.int 65535 0,.int 65535 0] [(0,r6.v),(1,r12.v),(2,r18.v)] r18.h' kVH) fun r19=>sMk [r19.v,r18.v,r17.v,r16.v,r15.v,r14.v,r13.v,r12.v,r11.v,r10.v,r9.v,r8.v,r7.v,r6.v,r5.v,r4.v,r3.v,r2.v,r1.v,r0.v] r19.h' (fun h=>fA 4 1 [.aa,.int 9223372036854775807 0,.int 65535 0,.int 65535 0] [(0,r19.v)] h kVH) fun r20=>sEf [r20.v,r19.v,r18.v,r17.v,r16.v,r15.v,r14.v,r13.v,r12.v,r11.v,r10.v,r9.v,r8.v,r7.v,r6.v,r5.v,r4.v,r3.v,r2.v,r1.v,r0.v] r20.h' (gg 50 4 40 r1.v r20.v r20.h' kVH) fun r21=>sRd [r21.v,r20.v,r19.v,r18.v,r17.v,r16.v,r15.v,r14.v,r13.v,r12.v,r11.v,r10.v,r9.v,r8.v,r7.v,r6.v,r5.v,r4.v,r3.v,r2.v,r1.v,r0.v] r21.h' (aj 2 v10 r21.h' kVH) fun r22=>sEf [r22.v,r21.v,r20.v,r19.v,r18.v,r17.v,r16.v,r15.v,r14.v,r13.v,r12.v,r11.v,r10.v,r9.v,r8.v,r7.v,r6.v,r5.v,r4.v,r3.v,r2.v,r1.v,r0.v] r22.h' (bQ r22.v r21.v r22.h' kVH) fun r23=>bq (and (aG r0 (OK.f (.mk (o1 (aj 2) (.tr 10))) (CL mx) run r0.σ tt (aN (ag r0.h) r6.h') kVH)) (and (aG r1 (OK.f (.mk (o1 ao (.st 0))) (CL mx) run r1.σ tt (aN (ag r1.h) r6.h') kVH)) (and (aG r7 (OK.f (.mk (o1 (aj 3) (.tr 12))) (CL mx) run r7.σ tt (aN (ag r7.h) r6.h) kVH)) (and (aG r8 (OK.f (.mk (o1 ao (.st 0))) (CL mx) run r8.σ tt (aN (ag r8.h) r6.h) kVH)) (and (aG r9 (OK.f (.mk (o2 (bM 4) (.st 0) (.cst (.int 9223372036854775807 1)))) (CL mx) run r9.σ tt (aN (ag r9.h) r6.h) kVH)) (and (aG r10 (OK.f (.mk (o1 (aj 0) (.st 0))) (CL mx) run r10.σ tt (aN (ag r10.h) r6.h) kVH)) (and (aG r11 (OK.f (.mk (o1 ao (.st 0))) (CL mx) run r11.σ tt (aN (ag r11.h) r6.h) kVH)) (and (aG r12 (OK.f (.mk (o1 (cvI 65535) (.st 0))) (CL mx) run r12.σ tt (aN (ag r12.h) r6.h) kVH)) (and (aG r13 (OK.f (.mk (o1 (aj 3) (.tr 12))) (CL mx) run r13.σ tt (aN (ag r13.h) r6.h) kVH)) (and (aG r14 (OK.f (.mk (o1 ao (.st 0))) (CL mx) run r14.σ tt (aN (ag r14.h) r6.h) kVH)) (and (aG r15 (OK.f (.mk (o2 (bM 4) (.st 0) (.cst (.int 9223372036854775807 2)))) (CL mx) run r15.σ tt (aN (ag r15.h) r6.h) kVH)) (and (aG r16 (OK.f (.mk (o1 (aj 0) (.st 0))) (CL mx) run r16.σ tt (aN (ag r16.h) r6.h) kVH)) (and (aG r17 (OK.f (.mk (o1 ao (.st 0))) (CL mx) run r17.σ tt (aN (ag r17.h) r6.h) kVH)) (and (aG r18 (OK.f (.mk (o1 (cvI 65535) (.st 0))) (CL mx) run r18.σ tt (aN (ag r18.h) r6.h) kVH)) (true))))))))))))))) (some (.st tt r23.h')) none)) (az v0 v1 v2 v5 O v7 M v9 v10 j u g D v46 v47 E l v76 F I J G t)):=(eW (C:=CL mx) [1,1,1,1,0,1,0,0,1,1,0,0,1] 7 [0,1,2,5,6,7,8,9,10,12,13,15,26,46,47,48,49,76,77,85,86,87,88] (by kernel_rfl) _ _ _).trans (by kernel_rfl)
theorem adP:kc (CL mx) run lp (agB mx) ⟨az v0 v1 v2 v5 O v7 M v9 v10 j u g D v46 v47 E l v76 F I J G t,h⟩ κn κx=aj 3 M h (fun a0 h=>ao a0 h (fun a1 h=>arith cg (.int 9223372036854775807 7) v76 h (fun a2 h=>bM 4 a1 a2 h (fun a3 h=>aj 3 a3 h (fun a4 h=>ao a4 h (fun a5 h=>bG a5 h (fun a6 h=>kcR κn (kcO 4 κn (kcO 3 κn κx)) (lp (yR mx) ⟨az v0 v1 v2 v5 O v7 M v9 v10 j v76 g D v46 v47 E l v76 F a5 a6 (.int 9223372036854775807 0) t,h⟩)))))))):=by kernel_rfl
theorem aei:kc (CL mx) run lp (afQ mx) ⟨az v0 v1 v2 v5 O v7 M v9 v10 j u g D v46 v47 E l v76 F I J G t,h⟩ κn κx=arith cg v76 (.int 9223372036854775807 1) h (fun a0 h=>κn ⟨az v0 v1 v2 v5 O v7 M v9 v10 j u g D v46 v47 E l a0 F I J G t,h⟩):=by kernel_rfl
theorem vo:kc (CL mx) run lp (yR mx) ⟨az v0 v1 v2 v5 O v7 M v9 v10 j u g D v46 v47 E l v76 F I J G t,h⟩ κn κx=cmp ilt G J h (fun a0 h=>bJ a0 (kc (CL mx) run lp (afX mx) ⟨az v0 v1 v2 v5 O v7 M v9 v10 j u g D v46 v47 E l v76 F I J G a0,h⟩ (fun s=>kc (CL mx) run lp (aga mx) s κn κx) κx) (κx (.exit 4) ⟨az v0 v1 v2 v5 O v7 M v9 v10 j u g D v46 v47 E l v76 F I J G a0,h⟩)):=by kernel_rfl
theorem adI:kc (CL mx) run lp (afX mx) ⟨az v0 v1 v2 v5 O v7 M v9 v10 j u g D v46 v47 E l v76 F I J G t,h⟩ κn κx=bM 4 I G h (fun a0 h=>aF 4 a0 h (fun a1 h=>cU h (.cells [.int 18446744073709551615 0,.bool false,.aa,.aa] 68) (fun a2 h=>ay 4 a2 a1 h (fun a3 h=>kc (CL mx) run lp (aeO mx) ⟨az v0 v1 v2 v5 O v7 M v9 v10 j u a2 D v46 v47 E l v76 F I J G t,h⟩ κn (kcO 5 κn κx))))):=by kernel_rfl
theorem aee:kc (CL mx) run lp (aga mx) ⟨az v0 v1 v2 v5 O v7 M v9 v10 j u g D v46 v47 E l v76 F I J G t,h⟩ κn κx=arith cg G (.int 9223372036854775807 1) h (fun a0 h=>κn ⟨az v0 v1 v2 v5 O v7 M v9 v10 j u g D v46 v47 E l v76 F I J a0 t,h⟩):=by kernel_rfl
theorem adV:kc (CL mx) run lp (aeO mx) ⟨az v0 v1 v2 v5 O v7 M v9 v10 j u g D v46 v47 E l v76 F I J G t,h⟩ κn κx=kcR κn κx ((fun tt=>dr (sRd [] h (aW u h kVH) fun r0=>sRd [r0.v] r0.h' (aW u r0.h' kVH) fun r1=>sRd [r1.v,r0.v] r1.h' (aj 3 v10 r1.h' kVH) fun r2=>sRd [r2.v,r1.v,r0.v] r2.h' (kn 3 1 r2.v r1.v r2.h' kVH) fun r3=>sRd [r3.v,r2.v,r1.v,r0.v] r3.h' (ao r3.v r3.h' kVH) fun r4=>sRd [r4.v,r3.v,r2.v,r1.v,r0.v] r4.h' (aj 3 g r4.h' kVH) fun r5=>sRd [r5.v,r4.v,r3.v,r2.v,r1.v,r0.v] r5.h' (ao r5.v r5.h' kVH) fun r6=>sRd [r6.v,r5.v,r4.v,r3.v,r2.v,r1.v,r0.v] r6.h' (bM 4 r6.v (.int 9223372036854775807 0) r6.h' kVH) fun r7=>sRd [r7.v,r6.v,r5.v,r4.v,r3.v,r2.v,r1.v,r0.v] r7.h' (aF 4 r7.v r7.h' kVH) fun r8=>sEf [r8.v,r7.v,r6.v,r5.v,r4.v,r3.v,r2.v,r1.v,r0.v] r8.h' (aP kVH (aH (CL mx) run 27 [r8.v] r8.h')) fun r9=>sRd [r9.v,r8.v,r7.v,r6.v,r5.v,r4.v,r3.v,r2.v,r1.v,r0.v] r9.h' (aj 3 g r9.h' kVH) fun r10=>sRd [r10.v,r9.v,r8.v,r7.v,r6.v,r5.v,r4.v,r3.v,r2.v,r1.v,r0.v] r10.h' (ao r10.v r10.h' kVH) fun r11=>sRd [r11.v,r10.v,r9.v,r8.v,r7.v,r6.v,r5.v,r4.v,r3.v,r2.v,r1.v,r0.v] r11.h' (bM 4 r11.v (.int 9223372036854775807 1) r11.h' kVH) fun r12=>sRd [r12.v,r11.v,r10.v,r9.v,r8.v,r7.v,r6.v,r5.v,r4.v,r3.v,r2.v,r1.v,r0.v] r12.h' (aj 0 r12.v r12.h' kVH) fun r13=>sRd [r13.v,r12.v,r11.v,r10.v,r9.v,r8.v,r7.v,r6.v,r5.v,r4.v,r3.v,r2.v,r1.v,r0.v] r13.h' (ao r13.v r13.h' kVH) fun r14=>sRd [r14.v,r13.v,r12.v,r11.v,r10.v,r9.v,r8.v,r7.v,r6.v,r5.v,r4.v,r3.v,r2.v,r1.v,r0.v] r14.h' (cvI 65535 r14.v r14.h' kVH) fun r15=>sRd [r15.v,r14.v,r13.v,r12.v,r11.v,r10.v,r9.v,r8.v,r7.v,r6.v,r5.v,r4.v,r3.v,r2.v,r1.v,r0.v] r15.h' (aj 3 g r15.h' kVH) fun r16=>sRd [r16.v,r15.v,r14.v,r13.v,r12.v,r11.v,r10.v,r9.v,r8.v,r7.v,r6.v,r5.v,r4.v,r3.v,r2.v,r1.v,r0.v] r16.h' (ao r16.v r16.h' kVH) fun r17=>sRd [r17.v,r16.v,r15.v,r14.v,r13.v,r12.v,r11.v,r10.v,r9.v,r8.v,r7.v,r6.v,r5.v,r4.v,r3.v,r2.v,r1.v,r0.v] r17.h' (bM 4 r17.v (.int 9223372036854775807 2) r17.h' kVH) fun r18=>sRd [r18.v,r17.v,r16.v,r15.v,r14.v,r13.v,r12.v,r11.v,r10.v,r9.v,r8.v,r7.v,r6.v,r5.v,r4.v,r3.v,r2.v,r1.v,r0.v] r18.h' (aj 0 r18.v r18.h' kVH) fun r19=>sRd [r19.v,r18.v,r17.v,r16.v,r15.v,r14.v,r13.v,r12.v,r11.v,r10.v,r9.v,r8.v,r7.v,r6.v,r5.v,r4.v,r3.v,r2.v,r1.v,r0.v] r19.h' (ao r19.v r19.h' kVH) fun r20=>sRd [r20.v,r19.v,r18.v,r17.v,r16.v,r15.v,r14.v,r13.v,r12.v,r11.v,r10.v,r9.v,r8.v,r7.v,r6.v,r5.v,r4.v,r3.v,r2.v,r1.v,r0.v] r20.h' (cvI 65535 r20.v r20.h' kVH) fun r21=>sRd [r21.v,r20.v,r19.v,r18.v,r17.v,r16.v,r15.v,r14.v,r13.v,r12.v,r11.v,r10.v,r9.v,r8.v,r7.v,r6.v,r5.v,r4.v,r3.v,r2.v,r1.v,r0.v] r21.h' (aj 3 g r21.h' kVH) fun r22=>sRd [r22.v,r21.v,r20.v,r19.v,r18.v,r17.v,r16.v,r15.v,r14.v,r13.v,r12.v,r11.v,r10.v,r9.v,r8.v,r7.v,r6.v,r5.v,r4.v,r3.v,r2.v,r1.v,r0.v] r22.h' (ao r22.v r22.h' kVH) fun r23=>sRd [r23.v,r22.v,r21.v,r20.v,r19.v,r18.v,r17.v,r16.v,r15.v,r14.v,r13.v,r12.v,r11.v,r10.v,r9.v,r8.v,r7.v,r6.v,r5.v,r4.v,r3.v,r2.v,r1.v,r0.v] r23.h' (bM 4 r23.v (.int 9223372036854775807 3) r23.h' kVH) fun r24=>sRd [r24.v,r23.v,r22.v,r21.v,r20.v,r19.v,r18.v,r17.v,r16.v,r15.v,r14.v,r13.v,r12.v,r11.v,r10.v,r9.v,r8.v,r7.v,r6.v,r5.v,r4.v,r3.v,r2.v,r1.v,r0.v] r24.h' (aj 0 r24.v r24.h' kVH) fun r25=>sRd [r25.v,r24.v,r23.v,r22.v,r21.v,r20.v,r19.v,r18.v,r17.v,r16.v,r15.v,r14.v,r13.v,r12.v,r11.v,r10.v,r9.v,r8.v,r7.v,r6.v,r5.v,r4.v,r3.v,r2.v,r1.v,r0.v] r25.h' (ao r25.v r25.h' kVH) fun r26=>sRd [r26.v,r25.v,r24.v,r23.v,r22.v,r21.v,r20.v,r19.v,r18.v,r17.v,r16.v,r15.v,r14.v,r13.v,r12.v,r11.v,r10.v,r9.v,r8.v,r7.v,r6.v,r5.v,r4.v,r3.v,r2.v,r1.v,r0.v] r26.h' (cvI 4294967295 r26.v r26.h' kVH) fun r27=>sRd [r27.v,r26.v,r25.v,r24.v,r23.v,r22.v,r21.v,r20.v,r19.v,r18.v,r17.v,r16.v,r15.v,r14.v,r13.v,r12.v,r11.v,r10.v,r9.v,r8.v,r7.v,r6.v,r5.v,r4.v,r3.v,r2.v,r1.v,r0.v] r27.h' (aj 3 g r27.h' kVH) fun r28=>sRd [r28.v,r27.v,r26.v,r25.v,r24.v,r23.v,r22.v,r21.v,r20.v,r19.v,r18.v,r17.v,r16.v,r15.v,r14.v,r13.v,r12.v,r11.v,r10.v,r9.v,r8.v,r7.v,r6.v,r5.v,r4.v,r3.v,r2.v,r1.v,r0.v] r28.h' (ao r28.v r28.h' kVH) fun r29=>sRd [r29.v,r28.v,r27.v,r26.v,r25.v,r24.v,r23.v,r22.v,r21.v,r20.v,r19.v,r18.v,r17.v,r16.v,r15.v,r14.v,r13.v,r12.v,r11.v,r10.v,r9.v,r8.v,r7.v,r6.v,r5.v,r4.v,r3.v,r2.v,r1.v,r0.v] r29.h' (bM 4 r29.v (.int 9223372036854775807 5) r29.h' kVH) fun r30=>sRd [r30.v,r29.v,r28.v,r27.v,r26.v,r25.v,r24.v,r23.v,r22.v,r21.v,r20.v,r19.v,r18.v,r17.v,r16.v,r15.v,r14.v,r13.v,r12.v,r11.v,r10.v,r9.v,r8.v,r7.v,r6.v,r5.v,r4.v,r3.v,r2.v,r1.v,r0.v] r30.h' (aj 2 r30.v r30.h' kVH) fun r31=>sRd [r31.v,r30.v,r29.v,r28.v,r27.v,r26.v,r25.v,r24.v,r23.v,r22.v,r21.v,r20.v,r19.v,r18.v,r17.v,r16.v,r15.v,r14.v,r13.v,r12.v,r11.v,r10.v,r9.v,r8.v,r7.v,r6.v,r5.v,r4.v,r3.v,r2.v,r1.v,r0.v] r31.h' (ao r31.v r31.h' kVH) fun r32=>sRd [r32.v,r31.v,r30.v,r29.v,r28.v,r27.v,r26.v,r25.v,r24.v,r23.v,r22.v,r21.v,r20.v,r19.v,r18.v,r17.v,r16.v,r15.v,r14.v,r13.v,r12.v,r11.v,r10.v,r9.v,r8.v,r7.v,r6.v,r5.v,r4.v,r3.v,r2.v,r1.v,r0.v] r32.h' (dX (placeOf (CL mx) [(0,47),(2,24),(3,24),(4,50),(5,22)]) [.aa,.int 9223372036854775807 0,.int 65535 0,.int 65535 0,.int 4294967295 0,.aa] [(0,r9.v),(1,r15.v),(2,r21.v),(3,r27.v),(4,r32.v)] r32.h' kVH) fun r33=>sMk [r33.v,r32.v,r31.v,r30.v,r29.v,r28.v,r27.v,r26.v,r25.v,r24.v,r23.v,r22.v,r21.v,r20.v,r19.v,r18.v,r17.v,r16.v,r15.v,r14.v,r13.v,r12.v,r11.v,r10.v,r9.v,r8.v,r7.v,r6.v,r5.v,r4.v,r3.v,r2.v,r1.v,r0.v] r33.h' (fun h=>fA 6 1 [.aa,.int 9223372036854775807 0,.int 65535 0,.int 65535 0,.int 4294967295 0,.aa] [(0,r33.v)] h kVH) fun r34=>sEf [r34.v,r33.v,r32.v,r31.v,r30.v,r29.v,r28.v,r27.v,r26.v,r25.v,r24.v,r23.v,r22.v,r21.v,r20.v,r19.v,r18.v,r17.v,r16.v,r15.v,r14.v,r13.v,r12.v,r11.v,r10.v,r9.v,r8.v,r7.v,r6.v,r5.v,r4.v,r3.v,r2.v,r1.v,r0.v] r34.h' (gg 53 6 64 r4.v r34.v r34.h' kVH) fun r35=>sRd [r35.v,r34.v,r33.v,r32.v,r31.v,r30.v,r29.v,r28.v,r27.v,r26.v,r25.v,r24.v,r23.v,r22.v,r21.v,r20.v,r19.v,r18.v,r17.v,r16.v,r15.v,r14.v,r13.v,r12.v,r11.v,r10.v,r9.v,r8.v,r7.v,r6.v,r5.v,r4.v,r3.v,r2.v,r1.v,r0.v] r35.h' (aj 3 v10 (dt (dy [r0,r1,r2,r3,r4,r5,r6,r7,r8,r9,r10,r11,r12,r13,r14,r15,r16,r17,r18,r19,r20,r21,r22,r23,r24,r25,r26,r27,r28,r29,r30,r31,r32,r33,r34,r35] [34]) r35.h') kVH) fun r36=>sRd [r36.v,r35.v,r34.v,r33.v,r32.v,r31.v,r30.v,r29.v,r28.v,r27.v,r26.v,r25.v,r24.v,r23.v,r22.v,r21.v,r20.v,r19.v,r18.v,r17.v,r16.v,r15.v,r14.v,r13.v,r12.v,r11.v,r10.v,r9.v,r8.v,r7.v,r6.v,r5.v,r4.v,r3.v,r2.v,r1.v,r0.v] r36.h' (kn 3 1 r36.v r0.v r36.h' kVH) fun r37=>sEf [r37.v,r36.v,r35.v,r34.v,r33.v,r32.v,r31.v,r30.v,r29.v,r28.v,r27.v,r26.v,r25.v,r24.v,r23.v,r22.v,r21.v,r20.v,r19.v,r18.v,r17.v,r16.v,r15.v,r14.v,r13.v,r12.v,r11.v,r10.v,r9.v,r8.v,r7.v,r6.v,r5.v,r4.v,r3.v,r2.v,r1.v,r0.v] r37.h' (bQ r37.v r35.v r37.h' kVH) fun r38=>bq (and (aG r0 (OK.f (.mk (o1 aW (.tr 13))) (CL mx) run r0.σ tt (aN (ag r0.h) r9.h') kVH)) (and (aG r1 (OK.f (.mk (o1 aW (.tr 13))) (CL mx) run r1.σ tt (aN (ag r1.h) r9.h') kVH)) (and (aG r2 (OK.f (.mk (o1 (aj 3) (.tr 10))) (CL mx) run r2.σ tt (aN (ag r2.h) r9.h') kVH)) (and (aG r3 (OK.f (.mk (o2 (kn 3 1) (.st 0) (.st 1))) (CL mx) run r3.σ tt (aN (ag r3.h) r9.h') kVH)) (and (aG r4 (OK.f (.mk (o1 ao (.st 0))) (CL mx) run r4.σ tt (aN (ag r4.h) r9.h') kVH)) (and (aG r10 (OK.f (.mk (o1 (aj 3) (.tr 15))) (CL mx) run r10.σ tt (aN (ag r10.h) r9.h) kVH)) (and (aG r11 (OK.f (.mk (o1 ao (.st 0))) (CL mx) run r11.σ tt (aN (ag r11.h) r9.h) kVH)) (and (aG r12 (OK.f (.mk (o2 (bM 4) (.st 0) (.cst (.int 9223372036854775807 1)))) (CL mx) run r12.σ tt (aN (ag r12.h) r9.h) kVH)) (and (aG r13 (OK.f (.mk (o1 (aj 0) (.st 0))) (CL mx) run r13.σ tt (aN (ag r13.h) r9.h) kVH)) (and (aG r14 (OK.f (.mk (o1 ao (.st 0))) (CL mx) run r14.σ tt (aN (ag r14.h) r9.h) kVH)) (and (aG r15 (OK.f (.mk (o1 (cvI 65535) (.st 0))) (CL mx) run r15.σ tt (aN (ag r15.h) r9.h) kVH)) (and (aG r16 (OK.f (.mk (o1 (aj 3) (.tr 15))) (CL mx) run r16.σ tt (aN (ag r16.h) r9.h) kVH)) (and (aG r17 (OK.f (.mk (o1 ao (.st 0))) (CL mx) run r17.σ tt (aN (ag r17.h) r9.h) kVH)) (and (aG r18 (OK.f (.mk (o2 (bM 4) (.st 0) (.cst (.int 9223372036854775807 2)))) (CL mx) run r18.σ tt (aN (ag r18.h) r9.h) kVH)) (and (aG r19 (OK.f (.mk (o1 (aj 0) (.st 0))) (CL mx) run r19.σ tt (aN (ag r19.h) r9.h) kVH)) (and (aG r20 (OK.f (.mk (o1 ao (.st 0))) (CL mx) run r20.σ tt (aN (ag r20.h) r9.h) kVH)) (and (aG r21 (OK.f (.mk (o1 (cvI 65535) (.st 0))) (CL mx) run r21.σ tt (aN (ag r21.h) r9.h) kVH)) (and (aG r22 (OK.f (.mk (o1 (aj 3) (.tr 15))) (CL mx) run r22.σ tt (aN (ag r22.h) r9.h) kVH)) (and (aG r23 (OK.f (.mk (o1 ao (.st 0))) (CL mx) run r23.σ tt (aN (ag r23.h) r9.h) kVH)) (and (aG r24 (OK.f (.mk (o2 (bM 4) (.st 0) (.cst (.int 9223372036854775807 3)))) (CL mx) run r24.σ tt (aN (ag r24.h) r9.h) kVH)) (and (aG r25 (OK.f (.mk (o1 (aj 0) (.st 0))) (CL mx) run r25.σ tt (aN (ag r25.h) r9.h) kVH)) (and (aG r26 (OK.f (.mk (o1 ao (.st 0))) (CL mx) run r26.σ tt (aN (ag r26.h) r9.h) kVH)) (and (aG r27 (OK.f (.mk (o1 (cvI 4294967295) (.st 0))) (CL mx) run r27.σ tt (aN (ag r27.h) r9.h) kVH)) (and (aG r28 (OK.f (.mk (o1 (aj 3) (.tr 15))) (CL mx) run r28.σ tt (aN (ag r28.h) r9.h) kVH)) (and (aG r29 (OK.f (.mk (o1 ao (.st 0))) (CL mx) run r29.σ tt (aN (ag r29.h) r9.h) kVH)) (and (aG r30 (OK.f (.mk (o2 (bM 4) (.st 0) (.cst (.int 9223372036854775807 5)))) (CL mx) run r30.σ tt (aN (ag r30.h) r9.h) kVH)) (and (aG r31 (OK.f (.mk (o1 (aj 2) (.st 0))) (CL mx) run r31.σ tt (aN (ag r31.h) r9.h) kVH)) (and (aG r32 (OK.f (.mk (o1 ao (.st 0))) (CL mx) run r32.σ tt (aN (ag r32.h) r9.h) kVH)) (and (aG r0 (OK.f (.mk (o1 aW (.tr 13))) (CL mx) run r0.σ tt (aN (ag r0.h) r35.h') kVH)) (and (aG r36 (OK.f (.mk (o1 (aj 3) (.tr 10))) (CL mx) run r36.σ tt (aN (ag r36.h) (dt (dy [r0,r1,r2,r3,r4,r5,r6,r7,r8,r9,r10,r11,r12,r13,r14,r15,r16,r17,r18,r19,r20,r21,r22,r23,r24,r25,r26,r27,r28,r29,r30,r31,r32,r33,r34,r35,r36,r37,r38] [34]) r9.h)) kVH)) (and (aG r36 (OK.f (.mk (o1 (aj 3) (.tr 10))) (CL mx) run r36.σ tt (aN (ag r36.h) (dt (dy [r0,r1,r2,r3,r4,r5,r6,r7,r8,r9,r10,r11,r12,r13,r14,r15,r16,r17,r18,r19,r20,r21,r22,r23,r24,r25,r26,r27,r28,r29,r30,r31,r32,r33,r34,r35,r36,r37,r38] [34]) r35.h)) kVH)) (true)))))))))))))))))))))))))))))))) (some (.st tt r38.h')) none)) (az v0 v1 v2 v5 O v7 M v9 v10 j u g D v46 v47 E l v76 F I J G t)):=(eW (C:=CL mx) [1,1,1,1,1,0,1,0,0,1,1,0,0,1,1,0,0,1,1,0,0,1] 7 [0,1,2,5,6,7,8,9,10,12,13,15,26,46,47,48,49,76,77,85,86,87,88] (by kernel_rfl) _ _ _).trans (by kernel_rfl)
theorem ajV:kcE (CL mx) [.cell 6 29,.cell 7 32] ⟨az v0 v1 v2 v5 O v7 M v9 v10 j u g D v46 v47 E l v76 F I J G t,h⟩=aF 6 O h (fun r0 _=>aF 2 v7 h (fun r1 _=>some (.vh (.tup [r0,r1]) h))):=(bW _ _ _).trans (by kernel_rfl)
theorem ash:dz (CL mx) 7=some ⟨acY mx,[0,1,2,5,6,7,8,9,10,12,13,15,26,46,47,48,49,76,77,85,86,87,88],133,[.cell 6 29,.cell 7 32]⟩:=by kernel_rfl
end
theorem alP (mx:Int) (run:Run) (lp:Lp) (x0 x1 x2:AV) (h:AH):dk (CL mx) run lp 7 [x0,x1,x2] h=vhO (kc (CL mx) run lp (acY mx) ⟨az x0 x1 x2 .bot .bot .bot .bot .bot .bot .bot .bot .bot .bot .bot .bot .bot .bot .bot .bot .bot .bot .bot .bot,h⟩ (kcE (CL mx) [.cell 6 29,.cell 7 32]) (kcQ (CL mx) [.cell 6 29,.cell 7 32])):=(bV (by kernel_rfl) (ash mx) (by kernel_rfl)).trans (by kernel_rfl)
theorem kG (mx:Int) (p:List Nat):eQ (CL mx) (kAt p (kOf (CL mx) 7)):=iX p (iT (CL mx) 7)
end
structure QOk (x:DQ):Prop where
 name:NOk x.name
 ty:x.ty<65536
 cls:x.cls<65536
structure abX (x:DR):Prop where
 name:NOk x.name
 ty:x.ty<65536
 cls:x.cls<65536
 ttl:x.ttl<4294967296
 dat: ∀y∈x.dat,y<256
def QAt (h:AH) (S:Nat→Prop) (r:List AV) (x:DQ):Prop:=∃lv pv,r=[lv,pv,.int 65535 (x.ty:Int),.int 65535 (x.cls:Int)]∧sL h S lv pv x.name
def RAt (h:AH) (S:Nat→Prop) (r:List AV) (x:DR):Prop:=∃lv pv dv,r=[lv,pv,.int 65535 (x.ty:Int),.int 65535 (x.cls:Int),.int 4294967295 (x.ttl:Int),dv]∧sL h S lv pv x.name∧jg h S dv x.dat
section
variable {mx:Int} {h h' h1:AH} {S S':Nat→Prop} {Q:Option Rs→Prop} {κn:Kt} {κx:Ex→Kt}
theorem sL.mono {lv pv:AV} {x:kQ} (n:sL h S lv pv x) (m: ∀b,b<h.length→S b→S' b∧ab h' b=ab h b):sL h' S' lv pv x:=⟨n.1,n.2.mono m⟩
theorem QAt.mono {r:List AV} {x:DQ} (m: ∀b,b<h.length→S b→S' b∧ab h' b=ab h b) (q:QAt h S r x):QAt h' S' r x:=by
 obtain ⟨lv,pv,e,n⟩:=q;exact ⟨lv,pv,e,n.mono m⟩
theorem RAt.mono {r:List AV} {x:DR} (m: ∀b,b<h.length→S b→S' b∧ab h' b=ab h b) (q:RAt h S r x):RAt h' S' r x:=by
 obtain ⟨lv,pv,dv,e,n,d⟩:=q;exact ⟨lv,pv,dv,e,n.mono m,d.mono m⟩
theorem OwR.ltH {z:Nat} {v:AV} {rows:List (List AV)} (r:OwR h S z v rows):LtH h v:=by
 obtain ⟨_,⟨rfl,rfl⟩|⟨b,cap,e,junk,y,_,o⟩⟩:=r
 ·exact LtH.aa
 ·rw [o.val];exact LtH.slo o.lt
theorem auA (a b c d:AV) (h:AH) (κ:Ka):fA 4 1 [.aa,.int 9223372036854775807 0,.int 65535 0,.int 65535 0] [(0,.agg [a,b,c,d])] h κ=κ (.slo h.length 0 1 1 4 true) (h++[some (.cells [a,b,c,d] 0)]):=by
 have e:fA 4 1 [.aa,.int 9223372036854775807 0,.int 65535 0,.int 65535 0] [(0,.agg [a,b,c,d])] h κ=κ (.slo (ag h) 0 1 1 4 true) (av h [some (.cells [a,b,c,d] 0)]):=by kernel_rfl
 rw [e,ah,aV]
theorem auc (a b c d e f:AV) (h:AH) (κ:Ka):fA 6 1 [.aa,.int 9223372036854775807 0,.int 65535 0,.int 65535 0,.int 4294967295 0,.aa] [(0,.agg [a,b,c,d,e,f])] h κ=κ (.slo h.length 0 1 1 6 true) (h++[some (.cells [a,b,c,d,e,f] 0)]):=by
 have e:fA 6 1 [.aa,.int 9223372036854775807 0,.int 65535 0,.int 65535 0,.int 4294967295 0,.aa] [(0,.agg [a,b,c,d,e,f])] h κ=κ (.slo (ag h) 0 1 1 6 true) (av h [some (.cells [a,b,c,d,e,f] 0)]):=by kernel_rfl
 rw [e,ah,aV]
theorem wi {n:Nat} (hn:n<65536) (h:AH) (κ:Ka):cvI 65535 (U64 n) h κ=κ (.int 65535 (n:Int)) h:=by
 unfold U64;rw [vW,dO (by omega)]
theorem cv32 {n:Nat} (hn:n<4294967296) (h:AH) (κ:Ka):cvI 4294967295 (U64 n) h κ=κ (.int 4294967295 (n:Int)) h:=by
 unfold U64;rw [vW,dO (by omega)]
theorem am3 {h Hb:AH} {b10 y10 n1 m0:Nat} {kv:AV} {L:List DQ} {idv flv r0 r1 r2:AV} (o:Old h Hb) (hb:h.length≤b10) (hb1:b10<Hb.length) (hn:n1=Hb.length) (hk: ∀i x,L[i]? =some x→aaT h (fun b=>m0≤b) kv i (j7 x)) (hL: ∀x∈L,QOk x) (hl:L.length≤10000) (v0 v1 v2 v5 O v7 M v9 u g D v76 F I J G t:AV):
 ∀(R A:List DQ) (f:Nat) (hc:AH) (v j l:AV) (N:Nat→Prop) (rows:List (List AV)),L=A++R→R.length+1100≤f→Fx b10 Hb hc→ab hc b10=some (.cells ([idv,flv,v,r0,r1,r2]) y10)→(∀b,N b→((m0≤b∧b<h.length)∨n1≤b)∧b<hc.length)→OwR hc (fun b=>n1≤b∧ ¬N b) 4 v rows→rows.length=A.length→(∀(i:Nat) r x,rows[i]? =some r→A[i]? =some x→QAt hc N r x)→
  (∀h' v j l (N:Nat→Prop) (rows:List (List AV)),Fx b10 Hb h'→ab h' b10=some (.cells ([idv,flv,v,r0,r1,r2]) y10)→(∀b,N b→((m0≤b∧b<h.length)∨n1≤b)∧b<h'.length)→OwR h' (fun b=>n1≤b∧ ¬N b) 4 v rows→rows.length=L.length→(∀(i:Nat) r x,rows[i]? =some r→L[i]? =some x→QAt h' N r x)→Q (κx (.exit 0) ⟨az v0 v1 v2 v5 O v7 M v9 (.pto b10 0) j u g D kv (N64 L.length) (N64 L.length) l v76 F I J G t,h'⟩))→
  Q (kcR κn κx ((rl (CL mx) f).lp (yX mx) ⟨az v0 v1 v2 v5 O v7 M v9 (.pto b10 0) j u g D kv (N64 L.length) (N64 A.length) l v76 F I J G t,hc⟩)):=by
 intro R
 induction R with
 |nil=>
  intro A f hc v j l N rows hA hf fx e10 hN ow hr hrow k;obtain ⟨f,rfl⟩:=fuel hf;obtain rfl:L=A:=by simpa using hA
  refine de (kG mx _) ?_;simp only [sy,A7,seval,uD,n64,Df];exact k hc _ _ _ N rows fx e10 hN ow hr hrow
 |cons x R ih=>
  intro A f hc v j l N rows hA hf fx e10 hN ow hr hrow k;obtain ⟨f,rfl⟩:=fuel hf;have hlen:L.length=A.length+(R.length+1):=by rw [hA];simp
  have hx:L[A.length]? =some x:=by rw [hA];simp
  have ok:=hL x (Bg hx);have okl:=ok.name.len;obtain ⟨q,P,T,ix,lP,lG,ld⟩:=hk _ _ hx;have q4:=T.four;have g1:decide ((A.length:Int)<(L.length:Int))=true:=by rw [decide_eq_true_iff];omega
  have w1:aQ 9223372036854775807 ((A.length:Int)+1)=(((A++[x]).length:Nat):Int):=by rw [bp (by omega) (by omega)];simp
  have oc:Old h hc:=Old.pW o hb fx;have lc:=aJ e10;unfold j7 at T;obtain ⟨dv0,kvq,rfl,D0,lD0,lK0,len0,kid0⟩:=T.kids;obtain ⟨qn,P0,T0,ix0,lP0,lG0,_⟩:=kid0 0 _ rfl;obtain ⟨q1,P1,T1,ix1,lP1,_,ld1⟩:=kid0 1 _ rfl;unfold lf at T1;obtain ⟨d1,k1,rfl,_⟩:=T1.kids;obtain ⟨M1,mv1,c1⟩:=ld1 0 _ rfl;obtain ⟨q2,P2,T2,ix2,lP2,_,ld2⟩:=kid0 2 _ rfl;unfold lf at T2;obtain ⟨d2,k2,rfl,_⟩:=T2.kids;obtain ⟨M2,mv2,c2⟩:=ld2 0 _ rfl;have z0: ∀κ:Ka,ay 4 (.pto hc.length 0) (.agg [U64 0,.bool false,dv0,kvq]) (hc++[some (.cells [.int 18446744073709551615 0,.bool false,.aa,.aa] (67+1))]) κ=κ (.tup []) (hc++[some (.cells [U64 0,.bool false,dv0,kvq] (67+1))]):=fun κ=>bD rfl rfl q4.2
  have lGc:=lG hc oc;simp only [Nat.reduceAdd] at z0;refine de (kG mx _) ?_;simp only [sy,A7,seval,uD,adh,n64,g1,ix,lGc,z0];obtain ⟨H,hH⟩: ∃H,H=hc++[some (.cells [U64 0,.bool false,dv0,kvq] (67+1))]:=⟨_,rfl⟩;have tn:ab H hc.length=some (.cells [U64 0,.bool false,dv0,kvq] (67+1)):=by rw [hH];exact aD _ _
  simp only [Nat.reduceAdd] at hH;rw [←hH];have lH:H.length=hc.length+1:=by rw [hH];simp
  have ocH:Old hc H:=by rw [hH];exact Old.rfl.app _
  have oH:Old h H:=oc.trans ocH;have e10H:ab H b10=_:=(ocH.2 b10 lc).trans e10;have c10:Cl1 H (.pto b10 2) v:=rn e10H rfl (ow.ltH.mono ocH.1);have cn:Cl1 H (.pto hc.length 3) kvq:=rn tn rfl (lK0.mono oH.1);obtain ⟨r,H',ec,oH',lv,pv,rfl,nam⟩:=aL.call (C:=CL mx) (xQ (mx:=mx) ok.name (T0.mono (S':=fun b=>m0≤b) (h':=H) _ fun b hb hs=>⟨hs,oH.2 b hb⟩) (f+(R.length+1+1099-x.name.labels.length-6)-0));have ecall:aP kVH (aH (CL mx) (rl (CL mx) (f+(R.length+1+1099))).run 27 [.agg qn] H)=some (.vh (.agg [lv,pv]) H'):=by
   rw [show f+(R.length+1+1099)=f+(R.length+1+1099-x.name.labels.length-6)-0+x.name.labels.length+6 by omega,ec];rfl
  have o2:Old h H':=oH.trans oH';have X0:Old H (aN (ag H) H'):=oH'.aN (by rw [ah];exact A9 _);have X1:Old H (aN (ag H') H):=Old.rfl.aN (by rw [ah];exact oH'.1);have X2:Old h (aN (ag H') H):=oH.trans X1;have leH:h.length≤H'.length:=o2.1;have pn:aO [lv,pv,.int 65535 (x.ty:Int),.int 65535 (x.cls:Int)]=true:=by
   have e1:=nam.2.plain;show and lv.plain (and pv.plain (and true (and true true)))=true;rw [e1,nam.1];rfl
  obtain ⟨H2,hH2⟩: ∃H2,H2=H'++[some (.cells [lv,pv,.int 65535 (x.ty:Int),.int 65535 (x.cls:Int)] 0)]:=⟨_,rfl⟩;have lH2:H2.length=H'.length+1:=by rw [hH2];simp
  have lHH:=oH'.1;have f2: ∀b,b<hc.length→ab H2 b=ab hc b:=fun b hb=>by rw [hH2,ak (by omega),oH'.2 b (by omega),ocH.2 b hb]
  have ow2:OwR H2 (fun b=>n1≤b∧ ¬N b∧b<hc.length) 4 v rows:=ow.mono fun b hb hs=>⟨⟨hs.1,hs.2,hb⟩,f2 b hb⟩
  have hrl:rows.length≤100000:=by omega
  obtain ⟨v',H3,a1,a2,a3,a4⟩:=ow2.app (49+1) (by_:=40) (by decide) (by decide) (x:=.slo H'.length 0 1 1 4 true) (q:=[lv,pv,.int 65535 (x.ty:Int),.int 65535 (x.cls:Int)]) rfl (by rw [hH2];exact zf _ rfl H') rfl pn hrl
  simp only [Nat.reduceAdd] at a1;have e103:ab H3 b10=some (.cells ([idv,flv,v,r0,r1,r2]) y10):=by rw [a4 b10 (by omega) (by omega),f2 b10 lc];exact e10
  have pv':=a2.plain;have st: ∀κ:Ka,bQ (.pto b10 2) v' H3 κ=κ (.tup []) (H3.set b10 (some (.cells [idv,flv,v',r0,r1,r2] y10))):=fun κ=>by
   rw [fM,pv',e103];rfl
  have bl: ∀(X:AH) (κ:Ka),dX (placeOf (CL mx) [(0,47),(2,24),(3,24)]) [.aa,.int 9223372036854775807 0,.int 65535 0,.int 65535 0] [(0,.agg [lv,pv]),(1,.int 65535 (x.ty:Int)),(2,.int 65535 (x.cls:Int))] X κ=κ (.agg [lv,pv,.int 65535 (x.ty:Int),.int 65535 (x.cls:Int)]) X:=fun X κ=>cZ (by kernel_rfl)
  have lst:H3.length≤(H3.set b10 (some (.cells ([idv,flv,v',r0,r1,r2]) y10))).length:=by rw [Bb];exact A9 _
  refine wEq (adO ..) ?_;refine wRd (v:=.pto b10 2) rfl ?_;refine wRd (c10.2.2 _ Old.rfl kVH) ?_;refine wRd (v:=.pto hc.length 3) rfl ?_;refine wRd (cn.2.2 _ Old.rfl kVH) ?_;refine wRd (ix0 _ _ kVH) ?_;refine wRd (lG0 _ oH kVH) ?_;refine wEf ecall oH'.1 ?_;refine wRd (v:=.pto hc.length 3) rfl ?_;refine wRd (cn.2.2 _ oH' kVH) ?_;refine wRd (ix1 _ _ kVH) ?_;refine wRd (mv1 _ kVH) ?_;refine wRd (c1.2.2 _ o2 kVH) ?_;refine wRd (wi ok.ty _ kVH) ?_;refine wRd (v:=.pto hc.length 3) rfl ?_;refine wRd (cn.2.2 _ oH' kVH) ?_;refine wRd (ix2 _ _ kVH) ?_;refine wRd (mv2 _ kVH) ?_;refine wRd (c2.2.2 _ o2 kVH) ?_;refine wRd (wi ok.cls _ kVH) ?_;refine wRd (bl _ kVH) ?_;refine wMk (w:=fun n=>.slo n 0 1 1 4 true) (B:=some (.cells [lv,pv,.int 65535 (x.ty:Int),.int 65535 (x.cls:Int)] 0)) (fun h=>auA lv pv (.int 65535 (x.ty:Int)) (.int 65535 (x.cls:Int)) h kVH) hH2 ?_;refine wEf (a1 kVH) a3 ?_;refine wRd (v:=.pto b10 2) rfl ?_;refine wEf (st kVH) lst ?_;refine bC (aw (LtH.pto (h:=H) (by omega)) (A9 _) rfl) ?_;refine bC (aw c10.2.1 (A9 _) (c10.2.2 _ X0 kVH)) ?_;refine bC (aw (LtH.pto (h:=H) (by omega)) oH'.1 rfl) ?_;refine bC (aw cn.2.1 oH'.1 (cn.2.2 _ X1 kVH)) ?_;refine bC (aw lP1 leH (ix1 _ _ kVH)) ?_;refine bC (aw c1.1 leH (mv1 _ kVH)) ?_;refine bC (aw c1.2.1 leH (c1.2.2 _ X2 kVH)) ?_;refine bC (aw (LtH.int (h:=h) _ _) leH (wi ok.ty _ kVH)) ?_;refine bC (aw (LtH.pto (h:=H) (by omega)) oH'.1 rfl) ?_;refine bC (aw cn.2.1 oH'.1 (cn.2.2 _ X1 kVH)) ?_;refine bC (aw lP2 leH (ix2 _ _ kVH)) ?_
  refine bC (aw c2.1 leH (mv2 _ kVH)) ?_;refine bC (aw c2.2.1 leH (c2.2.2 _ X2 kVH)) ?_;refine bC (aw (LtH.int (h:=h) _ _) leH (wi ok.cls _ kVH)) ?_;refine aji ?_;refine wEq (ac3 ..) ?_;simp only [dS,mA,n64,w1];have nb: ∀b,n1≤b→b≠b10:=fun b hb=>by omega
  have f3: ∀b,¬(n1≤b∧ ¬N b∧b<hc.length)→b<H2.length→ab H3 b=ab H2 b:=fun b h1 h2=>a4 b h1 h2
  obtain ⟨H4,hH4⟩: ∃H4,H4=H3.set b10 (some (.cells ([idv,flv,v',r0,r1,r2]) y10)):=⟨_,rfl⟩;have lH4:H4.length=H3.length:=by rw [hH4,Bb]
  have f4: ∀b,b≠b10→ab H4 b=ab H3 b:=fun b hb=>by rw [hH4,ae (Ne.symm hb)]
  have fxc:=fx.1;have lb10:b10<H3.length:=by omega
  rw [←hH4];refine ih (A++[x]) (f+(R.length+1+1099)) H4 v' _ _ (fun b=>N b∨(H.length≤b∧b<H'.length)∨(m0≤b∧b<h.length)) (rows++[[lv,pv,.int 65535 (x.ty:Int),.int 65535 (x.cls:Int)]]) (by rw [hA];simp) (by omega) ?_ ?_ ?_ ?_ (by simp [hr]) ?_ k
  ·refine ⟨by omega,fun i hi hn=>?_⟩
   rw [f4 i hn,f3 i (by omega) (by omega),f2 i (by omega)];exact fx.2 i hi hn
  ·rw [hH4,aq lb10]
  ·intro b hb
   rcases hb with hb|hb|hb
   ·have:=hN b hb
    exact ⟨this.1,by omega⟩
   ·exact ⟨.inr (by omega),by omega⟩
   ·exact ⟨.inl hb,by have:=hb.2;omega⟩
  ·refine a2.mono fun b hb hs=>⟨⟨?_,?_⟩,f4 b ?_⟩
   ·rcases hs with hs|hs<;>omega
   ·rintro (c|c|c)
    ·rcases hs with hs|hs
     ·exact hs.2.1 c
     ·have:=(hN b c).2;omega
    ·rcases hs with hs|hs<;>omega
    ·have:=c.2
     rcases hs with hs|hs<;>omega
   ·rcases hs with hs|hs<;>omega
  ·intro i r y hi hy
   by_cases hl:i<A.length
   ·rw [Bj (by omega)] at hi
    rw [Bj hl] at hy;refine (hrow i r y hi hy).mono fun b hb hs=>⟨.inl hs,?_⟩
    have:=hN b hs
    rw [f4 b (by omega),f3 b (fun c=>c.2.1 hs) (by omega),f2 b hb]
   ·have hi2:i=A.length:=by
     have:=(Bc.1 hy).1
     simp at this;omega
    subst hi2;rw [←hr,Bl (A9 _)] at hi;rw [Bl (A9 _)] at hy
    simp at hi hy
    rw [←hi,←hy];have mo: ∀b,b<H'.length→H.length≤b→ab H4 b=ab H' b:=fun b hb hs=>by
     rw [f4 b (by omega),f3 b (by omega) (by omega),hH2,ak hb]
    exact ⟨lv,pv,rfl,nam.mono fun b hb hs=>⟨.inr (.inl ⟨hs,hb⟩),mo b hb hs⟩⟩
theorem anm {h Hb:AH} {b10 y10 n1 m0:Nat} {kv:AV} {L:List DR} {cs:List AV} {kk:Nat} (hcs:cs.length=6) (hkk:kk<3) (o:Old h Hb) (hb:h.length≤b10) (hb1:b10<Hb.length) (hn:n1=Hb.length) (hk: ∀i x,L[i]? =some x→aaT h (fun b=>m0≤b) kv i (jy x)) (hL: ∀x∈L,abX x) (hl:L.length≤10000) (v0 v1 v2 v5 O v7 M v9 j D v46 v47 E l v76 F:AV):
 ∀(R A:List DR) (f:Nat) (hc:AH) (v g t:AV) (N:Nat→Prop) (rows:List (List AV)),L=A++R→R.length+1100≤f→Fx b10 Hb hc→ab hc b10=some (.cells (cs.set (3+kk) v) y10)→(∀b,N b→((m0≤b∧b<h.length)∨n1≤b)∧b<hc.length)→OwR hc (fun b=>n1≤b∧ ¬N b) 6 v rows→rows.length=A.length→(∀(i:Nat) r x,rows[i]? =some r→A[i]? =some x→RAt hc N r x)→
  (∀h' v g t (N:Nat→Prop) (rows:List (List AV)),Fx b10 Hb h'→ab h' b10=some (.cells (cs.set (3+kk) v) y10)→(∀b,N b→((m0≤b∧b<h.length)∨n1≤b)∧b<h'.length)→OwR h' (fun b=>n1≤b∧ ¬N b) 6 v rows→rows.length=L.length→(∀(i:Nat) r x,rows[i]? =some r→L[i]? =some x→RAt h' N r x)→Q (κx (.exit 4) ⟨az v0 v1 v2 v5 O v7 M v9 (.pto b10 0) j (N64 kk) g D v46 v47 E l v76 F kv (N64 L.length) (N64 L.length) t,h'⟩))→
  Q (kcR κn κx ((rl (CL mx) f).lp (yR mx) ⟨az v0 v1 v2 v5 O v7 M v9 (.pto b10 0) j (N64 kk) g D v46 v47 E l v76 F kv (N64 L.length) (N64 A.length) t,hc⟩)):=by
 intro R
 induction R with
 |nil=>
  intro A f hc v g t N rows hA hf fx e10 hN ow hr hrow k;obtain ⟨f,rfl⟩:=fuel hf;obtain rfl:L=A:=by simpa using hA
  refine de (kG mx _) ?_;simp only [sy,A7,seval,vo,n64,Df];exact k hc _ _ _ N rows fx e10 hN ow hr hrow
 |cons x R ih=>
  intro A f hc v g t N rows hA hf fx e10 hN ow hr hrow k;obtain ⟨f,rfl⟩:=fuel hf;have hlen:L.length=A.length+(R.length+1):=by rw [hA];simp
  have hx:L[A.length]? =some x:=by rw [hA];simp
  have ok:=hL x (Bg hx);have okl:=ok.name.len;obtain ⟨q,P,T,ix,lP,lG,ld⟩:=hk _ _ hx;have q4:=T.four;have g1:decide ((A.length:Int)<(L.length:Int))=true:=by rw [decide_eq_true_iff];omega
  have w1:aQ 9223372036854775807 ((A.length:Int)+1)=(((A++[x]).length:Nat):Int):=by rw [bp (by omega) (by omega)];simp
  have oc:Old h hc:=Old.pW o hb fx;have lc:=aJ e10;unfold jy at T;obtain ⟨dv0,kvq,rfl,D0,lD0,lK0,len0,kid0⟩:=T.kids;obtain ⟨qn,P0,T0,ix0,lP0,lG0,_⟩:=kid0 0 _ rfl;obtain ⟨q1,P1,T1,ix1,lP1,_,ld1⟩:=kid0 1 _ rfl;unfold lf at T1;obtain ⟨d1,k1,rfl,_⟩:=T1.kids;obtain ⟨M1,mv1,c1⟩:=ld1 0 _ rfl;obtain ⟨q2,P2,T2,ix2,lP2,_,ld2⟩:=kid0 2 _ rfl;unfold lf at T2;obtain ⟨d2,k2,rfl,_⟩:=T2.kids;obtain ⟨M2,mv2,c2⟩:=ld2 0 _ rfl;obtain ⟨q3,P3,T3,ix3,lP3,_,ld3⟩:=kid0 3 _ rfl;unfold lf at T3;obtain ⟨d3,k3,rfl,_⟩:=T3.kids;obtain ⟨M3,mv3,c3⟩:=ld3 0 _ rfl;obtain ⟨q5,P5,T5,ix5,lP5,_,ld5⟩:=kid0 5 _ rfl;obtain ⟨d5,k5,rfl,D5,lD5,_,_⟩:=T5.kids;obtain ⟨M5,mv5,c5⟩:=ld5 2 _ rfl;have z0: ∀κ:Ka,ay 4 (.pto hc.length 0) (.agg [U64 0,.bool false,dv0,kvq]) (hc++[some (.cells [.int 18446744073709551615 0,.bool false,.aa,.aa] (67+1))]) κ=κ (.tup []) (hc++[some (.cells [U64 0,.bool false,dv0,kvq] (67+1))]):=fun κ=>bD rfl rfl q4.2
  have lGc:=lG hc oc;simp only [Nat.reduceAdd] at z0;refine de (kG mx _) ?_;simp only [sy,A7,seval,vo,adI,n64,g1,ix,lGc,z0];obtain ⟨H,hH⟩: ∃H,H=hc++[some (.cells [U64 0,.bool false,dv0,kvq] (67+1))]:=⟨_,rfl⟩;have tn:ab H hc.length=some (.cells [U64 0,.bool false,dv0,kvq] (67+1)):=by rw [hH];exact aD _ _
  simp only [Nat.reduceAdd] at hH;rw [←hH];have lH:H.length=hc.length+1:=by rw [hH];simp
  have ocH:Old hc H:=by rw [hH];exact Old.rfl.app _
  have oH:Old h H:=oc.trans ocH;have e10H:ab H b10=_:=(ocH.2 b10 lc).trans e10;have cv:(cs.set (3+kk) v)[3+kk*1]? =some v:=by rw [BW,CO (by omega)]
  have c10:Cl1 H (.pto b10 (3+kk*1)) v:=rn e10H cv (ow.ltH.mono ocH.1);have cn:Cl1 H (.pto hc.length 3) kvq:=rn tn rfl (lK0.mono oH.1);obtain ⟨r,H',ec,oH',lv,pv,rfl,nam⟩:=aL.call (C:=CL mx) (xQ (mx:=mx) ok.name (T0.mono (S':=fun b=>m0≤b) (h':=H) _ fun b hb hs=>⟨hs,oH.2 b hb⟩) (f+(R.length+1+1099-x.name.labels.length-6)-0));have ecall:aP kVH (aH (CL mx) (rl (CL mx) (f+(R.length+1+1099))).run 27 [.agg qn] H)=some (.vh (.agg [lv,pv]) H'):=by
   rw [show f+(R.length+1+1099)=f+(R.length+1+1099-x.name.labels.length-6)-0+x.name.labels.length+6 by omega,ec];rfl
  have o2:Old h H':=oH.trans oH';have X0:Old H (aN (ag H) H'):=oH'.aN (by rw [ah];exact A9 _);have X1:Old H (aN (ag H') H):=Old.rfl.aN (by rw [ah];exact oH'.1);have X2:Old h (aN (ag H') H):=oH.trans X1;have leH:h.length≤H'.length:=o2.1;have pn:aO [lv,pv,.int 65535 (x.ty:Int),.int 65535 (x.cls:Int),.int 4294967295 (x.ttl:Int),d5]=true:=by
   have e1:=nam.2.plain;show and lv.plain (and pv.plain (and true (and true (and true (and d5.plain true)))))=true;rw [e1,nam.1,agJ D5];rfl
  obtain ⟨H2,hH2⟩: ∃H2,H2=H'++[some (.cells [lv,pv,.int 65535 (x.ty:Int),.int 65535 (x.cls:Int),.int 4294967295 (x.ttl:Int),d5] 0)]:=⟨_,rfl⟩;have lH2:H2.length=H'.length+1:=by rw [hH2];simp
  have lHH:=oH'.1;have f2: ∀b,b<hc.length→ab H2 b=ab hc b:=fun b hb=>by rw [hH2,ak (by omega),oH'.2 b (by omega),ocH.2 b hb]
  have ow2:OwR H2 (fun b=>n1≤b∧ ¬N b∧b<hc.length) 6 v rows:=ow.mono fun b hb hs=>⟨⟨hs.1,hs.2,hb⟩,f2 b hb⟩
  have hrl:rows.length≤100000:=by omega
  obtain ⟨v',H3,a1,a2,a3,a4⟩:=ow2.app (52+1) (by_:=64) (by decide) (by decide) (x:=.slo H'.length 0 1 1 6 true) (q:=[lv,pv,.int 65535 (x.ty:Int),.int 65535 (x.cls:Int),.int 4294967295 (x.ttl:Int),d5]) rfl (by rw [hH2];exact zf _ rfl H') rfl pn hrl
  simp only [Nat.reduceAdd] at a1;have e103:ab H3 b10=some (.cells (cs.set (3+kk) v) y10):=by rw [a4 b10 (by omega) (by omega),f2 b10 lc];exact e10
  have pv':=a2.plain;have st: ∀κ:Ka,bQ (.pto b10 (3+kk*1)) v' H3 κ=κ (.tup []) (H3.set b10 (some (.cells (cs.set (3+kk) v') y10))):=fun κ=>by
   rw [fM,pv',e103];show au (cs.set (3+kk) v)[3+kk*1]? (fun _=>κ (.tup []) (H3.set b10 (some (.cells ((cs.set (3+kk) v).set (3+kk*1) v') y10))))=_;rw [cv,aT,BW,Dp]
  have ia: ∀(X:AH) (κ:Ka),kn 3 1 (.pto b10 3) (N64 kk) X κ=κ (.pto b10 (3+kk*1)) X:=fun X κ=>by
   unfold N64;rw [rR,decide_eq_true hkk];rfl
  have bl: ∀(X:AH) (κ:Ka),dX (placeOf (CL mx) [(0,47),(2,24),(3,24),(4,50),(5,22)]) [.aa,.int 9223372036854775807 0,.int 65535 0,.int 65535 0,.int 4294967295 0,.aa] [(0,.agg [lv,pv]),(1,.int 65535 (x.ty:Int)),(2,.int 65535 (x.cls:Int)),(3,.int 4294967295 (x.ttl:Int)),(4,d5)] X κ=κ (.agg [lv,pv,.int 65535 (x.ty:Int),.int 65535 (x.cls:Int),.int 4294967295 (x.ttl:Int),d5]) X:=fun X κ=>by rcases D5 with ⟨_,e5⟩|⟨_,b,e,y,e5,_⟩<;>rw [e5]<;>exact cZ (by kernel_rfl)
  have lst:H3.length≤(H3.set b10 (some (.cells (cs.set (3+kk) v') y10))).length:=by rw [Bb];exact A9 _
  refine wEq (adV ..) ?_;refine wRd (v:=N64 kk) rfl ?_;refine wRd (v:=N64 kk) rfl ?_;refine wRd (v:=.pto b10 3) rfl ?_;refine wRd (ia _ kVH) ?_;refine wRd (c10.2.2 _ Old.rfl kVH) ?_;refine wRd (v:=.pto hc.length 3) rfl ?_;refine wRd (cn.2.2 _ Old.rfl kVH) ?_;refine wRd (ix0 _ _ kVH) ?_;refine wRd (lG0 _ oH kVH) ?_;refine wEf ecall oH'.1 ?_;refine wRd (v:=.pto hc.length 3) rfl ?_;refine wRd (cn.2.2 _ oH' kVH) ?_;refine wRd (ix1 _ _ kVH) ?_;refine wRd (mv1 _ kVH) ?_;refine wRd (c1.2.2 _ o2 kVH) ?_;refine wRd (wi ok.ty _ kVH) ?_;refine wRd (v:=.pto hc.length 3) rfl ?_;refine wRd (cn.2.2 _ oH' kVH) ?_;refine wRd (ix2 _ _ kVH) ?_;refine wRd (mv2 _ kVH) ?_;refine wRd (c2.2.2 _ o2 kVH) ?_;refine wRd (wi ok.cls _ kVH) ?_;refine wRd (v:=.pto hc.length 3) rfl ?_;refine wRd (cn.2.2 _ oH' kVH) ?_;refine wRd (ix3 _ _ kVH) ?_;refine wRd (mv3 _ kVH) ?_;refine wRd (c3.2.2 _ o2 kVH) ?_;refine wRd (cv32 ok.ttl _ kVH) ?_;refine wRd (v:=.pto hc.length 3) rfl ?_;refine wRd (cn.2.2 _ oH' kVH) ?_;refine wRd (ix5 _ _ kVH) ?_;refine wRd (mv5 _ kVH) ?_;refine wRd (c5.2.2 _ o2 kVH) ?_;refine wRd (bl _ kVH) ?_;refine wMk (w:=fun n=>.slo n 0 1 1 6 true) (B:=some (.cells [lv,pv,.int 65535 (x.ty:Int),.int 65535 (x.cls:Int),.int 4294967295 (x.ttl:Int),d5] 0)) (fun h=>auc lv pv (.int 65535 (x.ty:Int)) (.int 65535 (x.cls:Int)) (.int 4294967295 (x.ttl:Int)) d5 h kVH) hH2 ?_;refine wEf (a1 kVH) a3 ?_;refine wRd (v:=.pto b10 3) rfl ?_;refine wRd (ia _ kVH) ?_;refine wEf (st kVH) lst ?_
  refine bC (aw (LtH.int (h:=H) _ _) (A9 _) rfl) ?_;refine bC (aw (LtH.int (h:=H) _ _) (A9 _) rfl) ?_;refine bC (aw (LtH.pto (h:=H) (by omega)) (A9 _) rfl) ?_;refine bC (aw (LtH.pto (h:=H) (by omega)) (A9 _) (ia _ kVH)) ?_;refine bC (aw c10.2.1 (A9 _) (c10.2.2 _ X0 kVH)) ?_;refine bC (aw (LtH.pto (h:=H) (by omega)) oH'.1 rfl) ?_;refine bC (aw cn.2.1 oH'.1 (cn.2.2 _ X1 kVH)) ?_;refine bC (aw lP1 leH (ix1 _ _ kVH)) ?_;refine bC (aw c1.1 leH (mv1 _ kVH)) ?_;refine bC (aw c1.2.1 leH (c1.2.2 _ X2 kVH)) ?_;refine bC (aw (LtH.int (h:=h) _ _) leH (wi ok.ty _ kVH)) ?_;refine bC (aw (LtH.pto (h:=H) (by omega)) oH'.1 rfl) ?_;refine bC (aw cn.2.1 oH'.1 (cn.2.2 _ X1 kVH)) ?_;refine bC (aw lP2 leH (ix2 _ _ kVH)) ?_;refine bC (aw c2.1 leH (mv2 _ kVH)) ?_;refine bC (aw c2.2.1 leH (c2.2.2 _ X2 kVH)) ?_;refine bC (aw (LtH.int (h:=h) _ _) leH (wi ok.cls _ kVH)) ?_;refine bC (aw (LtH.pto (h:=H) (by omega)) oH'.1 rfl) ?_;refine bC (aw cn.2.1 oH'.1 (cn.2.2 _ X1 kVH)) ?_;refine bC (aw lP3 leH (ix3 _ _ kVH)) ?_;refine bC (aw c3.1 leH (mv3 _ kVH)) ?_;refine bC (aw c3.2.1 leH (c3.2.2 _ X2 kVH)) ?_;refine bC (aw (LtH.int (h:=h) _ _) leH (cv32 ok.ttl _ kVH)) ?_;refine bC (aw (LtH.pto (h:=H) (by omega)) oH'.1 rfl) ?_;refine bC (aw cn.2.1 oH'.1 (cn.2.2 _ X1 kVH)) ?_;refine bC (aw lP5 leH (ix5 _ _ kVH)) ?_;refine bC (aw c5.1 leH (mv5 _ kVH)) ?_;refine bC (aw c5.2.1 leH (c5.2.2 _ X2 kVH)) ?_;refine bC (aw (LtH.int (h:=H) _ _) (A9 _) rfl) ?_
  refine bC (aw (LtH.pto (h:=H) (by omega)) (show H.length≤H3.length by omega) rfl) ?_;refine bC (aw (LtH.pto (h:=H) (by omega)) (show H.length≤H3.length by omega) rfl) ?_;refine aji ?_;refine wEq (aee ..) ?_;simp only [dS,mA,n64,w1];have nb: ∀b,n1≤b→b≠b10:=fun b hb=>by omega
  have f3: ∀b,¬(n1≤b∧ ¬N b∧b<hc.length)→b<H2.length→ab H3 b=ab H2 b:=fun b h1 h2=>a4 b h1 h2
  obtain ⟨H4,hH4⟩: ∃H4,H4=H3.set b10 (some (.cells (cs.set (3+kk) v') y10)):=⟨_,rfl⟩;have lH4:H4.length=H3.length:=by rw [hH4,Bb]
  have f4: ∀b,b≠b10→ab H4 b=ab H3 b:=fun b hb=>by rw [hH4,ae (Ne.symm hb)]
  have fxc:=fx.1;have lb10:b10<H3.length:=by omega
  rw [←hH4];refine ih (A++[x]) (f+(R.length+1+1099)) H4 v' _ _ (fun b=>N b∨(H.length≤b∧b<H'.length)∨(m0≤b∧b<h.length)) (rows++[[lv,pv,.int 65535 (x.ty:Int),.int 65535 (x.cls:Int),.int 4294967295 (x.ttl:Int),d5]]) (by rw [hA];simp) (by omega) ?_ ?_ ?_ ?_ (by simp [hr]) ?_ k
  ·refine ⟨by omega,fun i hi hn=>?_⟩
   rw [f4 i hn,f3 i (by omega) (by omega),f2 i (by omega)];exact fx.2 i hi hn
  ·rw [hH4,aq lb10]
  ·intro b hb
   rcases hb with hb|hb|hb
   ·have:=hN b hb
    exact ⟨this.1,by omega⟩
   ·exact ⟨.inr (by omega),by omega⟩
   ·exact ⟨.inl hb,by have:=hb.2;omega⟩
  ·refine a2.mono fun b hb hs=>⟨⟨?_,?_⟩,f4 b ?_⟩
   ·rcases hs with hs|hs<;>omega
   ·rintro (c|c|c)
    ·rcases hs with hs|hs
     ·exact hs.2.1 c
     ·have:=(hN b c).2;omega
    ·rcases hs with hs|hs<;>omega
    ·have:=c.2
     rcases hs with hs|hs<;>omega
   ·rcases hs with hs|hs<;>omega
  ·intro i r y hi hy
   by_cases hl:i<A.length
   ·rw [Bj (by omega)] at hi
    rw [Bj hl] at hy;refine (hrow i r y hi hy).mono fun b hb hs=>⟨.inl hs,?_⟩
    have:=hN b hs
    rw [f4 b (by omega),f3 b (fun c=>c.2.1 hs) (by omega),f2 b hb]
   ·have hi2:i=A.length:=by
     have:=(Bc.1 hy).1
     simp at this;omega
    subst hi2;rw [←hr,Bl (A9 _)] at hi;rw [Bl (A9 _)] at hy
    simp at hi hy
    rw [←hi,←hy];have mo: ∀b,b<H'.length→H.length≤b→ab H4 b=ab H' b:=fun b hb hs=>by
     rw [f4 b (by omega),f3 b (by omega) (by omega),hH2,ak hb]
    refine ⟨lv,pv,d5,rfl,nam.mono fun b hb hs=>⟨.inr (.inl ⟨hs,hb⟩),mo b hb hs⟩,D5.mono fun b hb hs=>⟨.inr (.inr ⟨hs,hb⟩),?_⟩⟩;rw [f4 b (by omega),f3 b (by omega) (by omega),hH2,ak (by omega)];exact o2.2 b hb
end
noncomputable section
section
set_option maxRecDepth 100000
variable (mx:Int) (run:Run) (lp:Lp) (κn:Kt) (κx:Ex→Kt) (h:AH) (v0:AV)
end
def zc (v0 v2:AV):Tm:=(.nd 2 (.lf 0 v0) (.lf 2 v2))
def adw (mx:Int):K:=kAt [] (kOf (CL mx) 25)
section
set_option maxRecDepth 100000
variable (mx:Int) (run:Run) (lp:Lp) (κn:Kt) (κx:Ex→Kt) (h:AH) (v0 v2:AV)
theorem ajg:kc (CL mx) run lp (adw mx) ⟨zc v0 v2,h⟩ κn κx=aM v0 h (fun a0 h=>aj 0 a0 h (fun a1 h=>ao a1 h (fun a2 h=>aP (fun a3 h=>κx .ret ⟨zc v0 a3,h⟩) (aH (CL mx) run 53 [a2,(.str [100,110,115])] h)))):=by kernel_rfl
theorem apM:kcE (CL mx) [.tmp 2] ⟨zc v0 v2,h⟩=some (.vh v2 h):=(bW _ _ _).trans (by kernel_rfl)
theorem arK:dz (CL mx) 25=some ⟨adw mx,[0,2],8,[.tmp 2]⟩:=by kernel_rfl
end
theorem aj6 (mx:Int) (run:Run) (lp:Lp) (x0:AV) (h:AH):dk (CL mx) run lp 25 [x0] h=vhO (kc (CL mx) run lp (adw mx) ⟨zc x0 .bot,h⟩ (kcE (CL mx) [.tmp 2]) (kcQ (CL mx) [.tmp 2])):=(bV (by kernel_rfl) (arK mx) (by kernel_rfl)).trans (by kernel_rfl)
def avV:=Du @ajg (@apM)
def zn (v0 v1 G:AV):Tm:=(.nd 1 (.lf 0 v0) (.nd 4 (.lf 1 v1) (.lf 4 G)))
def aem (mx:Int):K:=kAt [] (kOf (CL mx) 53)
section
set_option maxRecDepth 100000
variable (mx:Int) (run:Run) (lp:Lp) (κn:Kt) (κx:Ex→Kt) (h:AH) (v0 v1 G:AV)
theorem agK:kc (CL mx) run lp (aem mx) ⟨zn v0 v1 G,h⟩ κn κx=aM v0 h (fun a0 h=>aj 0 a0 h (fun a1 h=>ao a1 h (fun a2 h=>nG ⟨.string,1,16,[.str []],false,true⟩ ⟨(.pointer 165),1,8,[.nil],false,false⟩ false a2 v1 h (fun a3 h=>κx .ret ⟨zn v0 v1 a3,h⟩)))):=by kernel_rfl
theorem aoW:kcE (CL mx) [.tmp 4] ⟨zn v0 v1 G,h⟩=some (.vh G h):=(bW _ _ _).trans (by kernel_rfl)
theorem arZ:dz (CL mx) 53=some ⟨aem mx,[0,1,4],11,[.tmp 4]⟩:=by kernel_rfl
end
theorem aoe (mx:Int) (run:Run) (lp:Lp) (x0 x1:AV) (h:AH):dk (CL mx) run lp 53 [x0,x1] h=vhO (kc (CL mx) run lp (aem mx) ⟨zn x0 x1 .bot,h⟩ (kcE (CL mx) [.tmp 4]) (kcQ (CL mx) [.tmp 4])):=(bV (by kernel_rfl) (arZ mx) (by kernel_rfl)).trans (by kernel_rfl)
def auY:=Du @agK (@aoW)
end
def By (b:List Nat):Prop:=∀y∈b,y<256
theorem By.drop {b:List Nat} (h:By b) (n:Nat):By (b.drop n):=fun y hy=>h y (BY hy)
theorem By.take {b:List Nat} (h:By b) (n:Nat):By (b.take n):=fun y hy=>h y (BX hy)
theorem By.be2 {b:List Nat} (h:By b):be2 b<65536:=by
 have:=jI (c:=⟨b,0,0⟩) h 0
 simpa using this
theorem By.be4 {b:List Nat} (h:By b):be4 b<4294967296:=by
 have:=aoa (c:=⟨b,0,0⟩) h 0
 simpa using this
theorem uO: ∀(k:Nat) (b:List Nat) (x:kQ) (r:List Nat),By b→eJ k b=some (x,r)→x.labels.length≤b.length∧(∀l∈x.labels,By l)∧(-1≤x.ptr∧x.ptr<16384)∧By r∧r.length<b.length
 |0,b,x,r,hb,e=>by cases b<;>cases e
 |k+1,[],x,r,hb,e=>by cases e
 |k+1,c::b,x,r,hb,e=>by
  have hc:c<256:=hb c (BB ..);have hb':By b:=fun y hy=>hb y (Bh _ hy)
  unfold eJ at e
  by_cases h0:c=0
  ·rw [if_pos h0] at e
   cases e
   exact ⟨by simp,by simp,by decide,hb',by simp⟩
  rw [if_neg h0] at e
  by_cases h1:192≤c
  ·rw [if_pos h1] at e
   cases b with
   |nil=>cases e
   |cons d b=>
    cases e
    have hd:d<256:=hb' d (BB ..);exact ⟨by simp,by simp,by show-1≤(((c-192)*256+d:Nat):Int)∧(((c-192)*256+d:Nat):Int)<16384;omega,fun y hy=>hb' y (Bh _ hy),by simp;omega⟩
  rw [if_neg h1] at e
  by_cases h2:63<c∨b.length<c
  ·rw [if_pos h2] at e;cases e
  rw [if_neg h2] at e
  cases e1:eJ k (b.drop c) with
  |none=>rw [e1] at e;cases e
  |some xr=>
   obtain ⟨x',r'⟩:=xr;rw [e1] at e
   cases e
   obtain ⟨i1,i2,i3,i4,i5⟩:=uO k _ x' _ (hb'.drop c) e1;rw [Bi] at i1 i5;refine ⟨by simp;omega,fun l hl=>?_,i3,i4,by simp;omega⟩;rcases Bv.1 hl with rfl|hl
   ·exact hb'.take c
   ·exact i2 l hl
theorem jW {α:Type} {f:List Nat→Option (α×List Nat)} {P:α→Prop} (F: ∀b x r,By b→b.length≤1000→f b=some (x,r)→P x∧By r∧r.length<b.length):
 ∀(n:Nat) (b:List Nat) (L:List α) (r:List Nat),By b→b.length≤1000→bR f n b=some (L,r)→(∀x∈L,P x)∧By r∧L.length+r.length≤b.length
 |0,b,L,r,hb,hl,e=>by
  cases e
  exact ⟨by simp,hb,by simp⟩
 |n+1,b,L,r,hb,hl,e=>by
  unfold bR at e
  cases e1:f b with
  |none=>rw [e1] at e;cases e
  |some xr=>
   obtain ⟨x,r1⟩:=xr;rw [e1] at e;obtain ⟨p1,p2,p3⟩:=F b x r1 hb hl e1
   dsimp only at e
   cases e2:bR f n r1 with
   |none=>rw [e2] at e;cases e
   |some Lr=>
    obtain ⟨L',r2⟩:=Lr;rw [e2] at e
    cases e
    obtain ⟨i1,i2,i3⟩:=jW F n r1 L' _ p2 (by omega) e2;refine ⟨fun y hy=>?_,i2,by simp;omega⟩;rcases Bv.1 hy with rfl|hy
    ·exact p1
    ·exact i1 y hy
theorem aeu (b:List Nat) (x:DQ) (r:List Nat) (hb:By b) (hl:b.length≤1000) (e:eR b=some (x,r)):QOk x∧By r∧r.length<b.length:=by
 unfold eR at e
 cases e1:eJ (b.length+1) b with
 |none=>rw [e1] at e;cases e
 |some xr=>
  obtain ⟨y,r1⟩:=xr;rw [e1] at e;obtain ⟨i1,i2,i3,i4,i5⟩:=uO _ _ _ _ hb e1
  dsimp only at e
  split at e
  ·cases e
  ·cases e
   exact ⟨⟨⟨by show y.labels.length≤_;omega,i2,i3⟩,i4.be2,(i4.drop 2).be2⟩,i4.drop 4,by rw [Bi];omega⟩
theorem uN (b:List Nat) (x:DR) (r:List Nat) (hb:By b) (hl:b.length≤1000) (e:fC b=some (x,r)):abX x∧By r∧r.length<b.length:=by
 unfold fC at e
 cases e1:eJ (b.length+1) b with
 |none=>rw [e1] at e;cases e
 |some xr=>
  obtain ⟨y,r1⟩:=xr;rw [e1] at e;obtain ⟨i1,i2,i3,i4,i5⟩:=uO _ _ _ _ hb e1
  dsimp only at e
  split at e
  ·cases e
  split at e
  ·cases e
  ·cases e
   exact ⟨⟨⟨by show y.labels.length≤_;omega,i2,i3⟩,i4.be2,(i4.drop 2).be2,(i4.drop 4).be4,(i4.drop 10).take _⟩,i4.drop _,by rw [Bi];omega⟩
structure MOk (m:rZ):Prop where
 id:m.id<65536
 flags:m.flags<65536
 qs: ∀x∈m.qs,QOk x
 r0: ∀x∈m.r0,abX x
 r1: ∀x∈m.r1,abX x
 r2: ∀x∈m.r2,abX x
 len:m.qs.length+m.r0.length+m.r1.length+m.r2.length≤1000
theorem atL (b:List Nat) (m:rZ) (hb:By b) (hl:b.length≤1000) (e:iS b=some m):MOk m:=by
 unfold iS at e
 split at e
 ·cases e
 cases e0:bR eR (be2 (b.drop 4)) (b.drop 12) with
 |none=>rw [e0] at e;cases e
 |some L0=>
  obtain ⟨qs,x0⟩:=L0;rw [e0] at e;obtain ⟨a1,a2,a3⟩:=jW aeu _ _ _ _ (hb.drop 12) (by rw [Bi];omega) e0;rw [Bi] at a3
  dsimp only at e
  cases e1:bR fC (be2 (b.drop 6)) x0 with
  |none=>rw [e1] at e;cases e
  |some L1=>
   obtain ⟨r0,x1⟩:=L1;rw [e1] at e;obtain ⟨b1,b2,b3⟩:=jW uN _ _ _ _ a2 (by omega) e1
   dsimp only at e
   cases e2:bR fC (be2 (b.drop 8)) x1 with
   |none=>rw [e2] at e;cases e
   |some L2=>
    obtain ⟨r1,x2⟩:=L2;rw [e2] at e;obtain ⟨c1,c2,c3⟩:=jW uN _ _ _ _ b2 (by omega) e2
    dsimp only at e
    cases e3:bR fC (be2 (b.drop 10)) x2 with
    |none=>rw [e3] at e;cases e
    |some L3=>
     obtain ⟨r2,x3⟩:=L3;rw [e3] at e;obtain ⟨d1,d2,d3⟩:=jW uN _ _ _ _ c2 (by omega) e3
     dsimp only at e
     split at e
     ·cases e
      exact ⟨hb.be2,(hb.drop 2).be2,a1,b1,c1,d1,by show qs.length+r0.length+r1.length+r2.length≤1000;omega⟩
     ·cases e
def avC:List Nat:=[100,110,115]
structure Fm (h:AH):Prop where
 f: ∃y,ab h 6=some (.cells [.pto 1 0] y)
 s: ∃ov y,ab h 1=some (.cells [.mpo 0,ov] y)
 m:ab h 0=some (.map [.str avC] [.pto 3 0])
def eT {α:Type} (A:AH→(Nat→Prop)→List AV→α→Prop) (h:AH) (S:Nat→Prop) (z:Nat) (v:AV) (L:List α):Prop:=∃rows,OwR h S z v rows∧rows.length=L.length∧ ∀(i:Nat) r x,rows[i]? =some r→L[i]? =some x→A h S r x
def amG (h:AH) (S:Nat→Prop) (cs:List AV) (m:rZ):Prop:=∃q v0 v1 v2,cs=[.int 65535 (m.id:Int),.int 65535 (m.flags:Int),q,v0,v1,v2]∧eT QAt h S 4 q m.qs∧eT RAt h S 6 v0 m.r0∧eT RAt h S 6 v1 m.r1∧eT RAt h S 6 v2 m.r2
def Z6:List AV:=[.int 65535 0,.int 65535 0,.aa,.aa,.aa,.aa]
def alm (h:AH) (data:List Nat) (r:AV) (h':AH):Prop:=Fx 3 h h'∧It h' 3 eV fL∧match iS data with
 |none=>∃e a:Nat,e≠0∧r= .tup [.agg Z6,.agg [N64 e,N64 a]]
 |some m=>∃cs,r= .tup [.agg cs,.agg [N64 0,N64 0]]∧amG h' (fun _=>True) cs m
section
variable {mx:Int} {h h' h1:AH} {m:Nat} {S S':Nat→Prop} {Q:Option Rs→Prop} {κn:Kt} {κx:Ex→Kt}
theorem eT.qF {z:Nat} {v:AV} {L:List DQ} (m: ∀b,b<h.length→S b→S' b∧ab h' b=ab h b) (l:eT QAt h S z v L):eT QAt h' S' z v L:=by
 obtain ⟨rows,o,e,r⟩:=l;exact ⟨rows,o.mono m,e,fun i a x h1 h2=>(r i a x h1 h2).mono m⟩
theorem eT.p9 {z:Nat} {v:AV} {L:List DR} (m: ∀b,b<h.length→S b→S' b∧ab h' b=ab h b) (l:eT RAt h S z v L):eT RAt h' S' z v L:=by
 obtain ⟨rows,o,e,r⟩:=l;exact ⟨rows,o.mono m,e,fun i a x h1 h2=>(r i a x h1 h2).mono m⟩
theorem Fm.of (F:Fm h) (l:6<h.length) (e: ∀i,i<h.length→i≠3→ab h' i=ab h i):Fm h':=by
 obtain ⟨⟨y,f⟩,⟨ov,ys,s⟩,m⟩:=F;exact ⟨⟨y,by rw [e 6 l (by decide)];exact f⟩,⟨ov,ys,by rw [e 1 (by omega) (by decide)];exact s⟩,by rw [e 0 (by omega) (by decide)];exact m⟩
theorem axQ:Fm HN:=⟨⟨83+1,by kernel_rfl⟩,⟨.slo 5 0 1 1 1 false,155+1,by kernel_rfl⟩,by kernel_rfl⟩
theorem Fm.lt (F:Fm h):6<h.length:=by
 obtain ⟨⟨y,f⟩,_,_⟩:=F;exact aJ f
theorem ahs (F:Fm h) (f:Nat):aL (fun r h'=>r= .pto 3 0∧h'=h) ((rl (CL mx) (f+1)).run 53 [.pto 1 0,.str avC] h):=by
 refine aL.runs (n:=f) (aoe mx _ _ _ _ _) ?_;obtain ⟨⟨y,e1⟩,⟨ov,ys,e2⟩,e3⟩:=F;have lk: ∀κ:Ka,nG ⟨.string,1,16,[.str []],false,true⟩ ⟨(.pointer 165),1,8,[.nil],false,false⟩ false (.mpo 0) (.str avC) h κ=κ (.pto 3 0) h:=by
  intro κ;unfold nG mapOf;simp only [e3];rfl
 simp only [sy,A7,seval,auY,e2,lk];exact Ends.mk ⟨rfl,rfl⟩
theorem akD (F:Fm h) (f:Nat):aH (CL mx) (rl (CL mx) (f+2)).run 25 [.pto 6 0] h=some (.pto 3 0,h):=by
 obtain ⟨⟨y,e1⟩,_,_⟩:=id F;have g:aL (fun r h'=>r= .pto 3 0∧h'=h) ((rl (CL mx) (f+2)).run 25 [.pto 6 0] h):=by
  refine aL.runs (n:=f+1) (aj6 mx _ _ _ _) ?_;simp only [sy,A7,seval,avV,e1];refine cy (ahs (mx:=mx) F f).call ?_;rintro r h' ⟨rfl,e⟩;exact Ends.mk ⟨rfl,e⟩
 obtain ⟨r,h2,el,er,eh⟩:=aL.call (C:=CL mx) g;rw [er,eh] at el;exact el
def oI:AV:=.agg [N64 1048576,N64 400,N64 1048576]
theorem anQ (f:Nat):aH (CL mx) (rl (CL mx) (f+1)).run 8 [] h=some (oI,h):=
 aeo (r:=oI) (h1:=[some (.cells [N64 1048576,N64 400,N64 1048576] (38+1))]) (by kernel_rfl) rfl (by kernel_rfl) (by kernel_rfl) rfl (by kernel_rfl)
theorem axo {h h':AH} {n:Nat} (e: ∀i,i<n→i≠3→ab h' i=ab h i) (hn:h.length=n) (hl:n≤h'.length):Fx 3 h h':=⟨by omega,fun i hi hn=>e i (by omega) hn⟩
theorem axm:Fx 3 (HN++HZ) HR:=by
 have l1:(HN++HZ).length=13:=by kernel_rfl
 have l2:HR.length=17:=by kernel_rfl
 refine axo (n:=13) (fun i hi hn=>?_) l1 (by omega)
 match i,hi,hn with
 |0,_,_=>show ab HR 0=ab (HN++HZ) 0;kernel_rfl
 |1,_,_=>show ab HR 1=ab (HN++HZ) 1;kernel_rfl
 |2,_,_=>show ab HR 2=ab (HN++HZ) 2;kernel_rfl
 |3,_,hn=>exact absurd rfl hn
 |4,_,_=>show ab HR 4=ab (HN++HZ) 4;kernel_rfl
 |5,_,_=>show ab HR 5=ab (HN++HZ) 5;kernel_rfl
 |6,_,_=>show ab HR 6=ab (HN++HZ) 6;kernel_rfl
 |7,_,_=>show ab HR 7=ab (HN++HZ) 7;kernel_rfl
 |8,_,_=>show ab HR 8=ab (HN++HZ) 8;kernel_rfl
 |9,_,_=>show ab HR 9=ab (HN++HZ) 9;kernel_rfl
 |10,_,_=>show ab HR 10=ab (HN++HZ) 10;kernel_rfl
 |11,_,_=>show ab HR 11=ab (HN++HZ) 11;kernel_rfl
 |12,_,_=>show ab HR 12=ab (HN++HZ) 12;kernel_rfl
 |i+13,hi,_=>omega
theorem sk {h hc:AH} {b10 y10 tb yt m0:Nat} {kvm dvm nu:AV} {L:List DR} {cs:List AV} {kk:Nat} (o:Old h hc) (hm:m0≤h.length) (hb:h.length≤b10) (hb1:b10<hc.length) (htb:ab hc tb=some (.cells [nu,.bool false,dvm,kvm] yt)) (hk:aaT h (fun b=>m0≤b) kvm (7+kk) (jQ jy L)) (hL: ∀x∈L,abX x) (hl:L.length≤10000) (hcs:cs.length=6) (hkk:kk<3) (e10:ab hc b10=some (.cells cs y10)) (ev:cs[3+kk]? =some .aa)
 (v0 v1 v2 v5 R v7 v9 H t j I v46 v47 J O u w B E p:AV) (f:Nat) (hf:L.length+1200≤f)
 (k: ∀h' v t j u w B E p,Fx b10 hc h'→ab h' b10=some (.cells (cs.set (3+kk) v) y10)→eT RAt h' (fun b=>m0≤b∧b≠b10) 6 v L→Q (kcR κn κx ((rl (CL mx) f).lp (tL mx) ⟨az v0 v1 v2 v5 R v7 (.pto tb 0) v9 (.pto b10 0) H t j I v46 v47 J O (N64 (kk+1)) u w B E p,h'⟩))):
 Q (kcR κn κx ((rl (CL mx) (f+1)).lp (tL mx) ⟨az v0 v1 v2 v5 R v7 (.pto tb 0) v9 (.pto b10 0) H t j I v46 v47 J O (N64 kk) u w B E p,hc⟩)):=by
 obtain ⟨q,P,T,ix,lP,lG,ld⟩:=hk;unfold jQ at T;obtain ⟨dv,kv,rfl,D,lD,lK,lens,kids⟩:=T.kids;obtain ⟨M,mv,c3⟩:=ld 3 _ rfl;have g1:decide ((kk:Int)<3)=true:=by rw [decide_eq_true_iff];omega
 have w7:aQ 9223372036854775807 (7+(kk:Int))=((7+kk:Nat):Int):=by rw [bp (by omega) (by omega)];simp
 have w1:aQ 9223372036854775807 ((kk:Int)+1)=((kk+1:Nat):Int):=by rw [bp (by omega) (by omega)];simp
 have lens': ∀(h':AH) (κ:Ka),bG kv h' κ=κ (N64 L.length) h':=fun h' κ=>by rw [lens,BI]
 have c3c:=c3.2.2 hc o;refine de (kG mx _) ?_;simp only [sy,A7,seval,uS,adP,n64,g1,htb,w7,ix,mv,c3c,lens'];have hcs2:cs.set (3+kk) .aa=cs:=by
  have hlt:3+kk<cs.length:=by omega
  have:=Bd hlt
  rw [this] at ev;have e2:cs[3+kk]=AV.aa:=by simpa using ev
  rw [←e2,List.set_getElem_self]
 refine anm (mx:=mx) (h:=h) (Hb:=hc) (b10:=b10) (y10:=y10) (n1:=hc.length) (m0:=m0) (kv:=kv) (L:=L) (cs:=cs) (kk:=kk) hcs hkk o hb hb1 rfl (fun i x hx=>kids i _ (by rw [Bn,hx];rfl)) hL hl _ _ _ _ _ _ _ _ _ _ _ _ _ _ _ _ L [] f hc .aa _ _ (fun _=>False) [] rfl (by omega) Fx.rfl (by rw [hcs2];exact e10) (fun b hb=>hb.elim) OwR.nil rfl (fun i r x hi=>by simp at hi) fun h' v j p N rows fx e10' hN ow hr hrow=>?_
 simp only [mW,decide_true,bqT];have d34:decide (4=3)=false:=by decide
 refine wEq (aei ..) ?_;simp only [dS,mA,n64,w1];refine k h' v _ j _ _ _ _ p fx e10' ⟨rows,ow.mono fun b hb hs=>⟨?_,rfl⟩,hr,fun i r x hi hx=>(hrow i r x hi hx).mono fun b hb hs=>⟨?_,rfl⟩⟩
 ·have:=hs.1;have:=o.1;exact ⟨by omega,by omega⟩
 ·have:=(hN b hs).1;have:=o.1;exact ⟨by omega,by omega⟩
end
section
variable {mx:Int} {h h' h1:AH} {m:Nat} {S:Nat→Prop} {Q:Option Rs→Prop} {κn:Kt} {κx:Ex→Kt}
theorem avR {h H:AH} {tb yt ym m0:Nat} {q0:List AV} {M:rZ} {ns:List Nat} (ok:MOk M) (hns:ns.length=4) (hm:m0≤H.length) (T:eX H (fun b=>m0≤b) q0 (aie M ns)) (htb:ab H tb=some (.cells q0 yt)) (v0 v1 v2 v5 O v7 v9 j p s u v46 v47 z o v76 A E G J K:AV) (f:Nat) (hf:3000≤f)
 (k: ∀h' b cs j p s u v46 v47 z o v76 A E G J K,Old H h'→ab h' b=some (.cells cs (29+1))→amG h' (fun b=>m0≤b) cs M→Q (kc (CL mx) (rl (CL mx) f).run (rl (CL mx) f).lp (zE mx) ⟨az v0 v1 v2 v5 O v7 (.pto tb 0) v9 (.pto b 0) j p s u v46 v47 z o v76 A E G J K,h'⟩ κn κx)):
 Q (kc (CL mx) (rl (CL mx) f).run (rl (CL mx) f).lp (adK mx) ⟨az v0 v1 v2 v5 O v7 (.pto tb 0) v9 .bot j p s u v46 v47 z o v76 A E G J K,H⟩ κn κx):=by
 obtain ⟨n2,n3,n4,n5,rfl⟩: ∃a b c d,ns=[a,b,c,d]:=by
  match ns,hns with
  |[a,b,c,d],_=>exact ⟨a,b,c,d,rfl⟩
 have q4:=T.four;unfold aie at T;obtain ⟨dv,kv,rfl,D,lD,lK,lens,kids⟩:=T.kids;obtain ⟨q1,P0,T0,ix0,lP0,_,ld0⟩:=kids 0 _ rfl;obtain ⟨q2,P1,T1,ix1,lP1,_,ld1⟩:=kids 1 _ rfl;obtain ⟨q6,P6,T6,ix6,lP6,lG6,ld6⟩:=kids 6 _ rfl;have k7:=kids 7 _ rfl;have k8:=kids 8 _ rfl;have k9:=kids 9 _ rfl;unfold lf at T0 T1;obtain ⟨d0,k0,rfl,_⟩:=T0.kids;obtain ⟨d1,k1,rfl,_⟩:=T1.kids;unfold jQ at T6;obtain ⟨d6,kv6,rfl,_,_,lK6,lens6,kids6⟩:=T6.kids;obtain ⟨M0,mv0,c0⟩:=ld0 0 _ rfl;obtain ⟨M1,mv1,c1⟩:=ld1 0 _ rfl;obtain ⟨M6,mv6,c6⟩:=ld6 3 _ rfl;have lens6': ∀(h':AH) (κ:Ka),bG kv6 h' κ=κ (N64 M.qs.length) h':=fun h' κ=>by rw [lens6,BI]
 have e0:=c0.2.2 H Old.rfl;have e1:=c1.2.2 H Old.rfl;have ix0': ∀(k:Nat) (h':AH) (κ:Ka),bM 4 kv (.int k 0) h' κ=κ P0 h':=ix0;have ix1': ∀(k:Nat) (h':AH) (κ:Ka),bM 4 kv (.int k 1) h' κ=κ P1 h':=ix1;have ix6': ∀(k:Nat) (h':AH) (κ:Ka),bM 4 kv (.int k 6) h' κ=κ P6 h':=ix6;have bl: ∀(X:AH) (κ:Ka),dX (placeOf (CL mx) [(0,24),(1,24),(2,25),(3,27)]) [.int 65535 0,.int 65535 0,.aa,.aa,.aa,.aa] [(0,.int 65535 (M.id:Int)),(1,.int 65535 (M.flags:Int))] X κ=κ (.agg [.int 65535 (M.id:Int),.int 65535 (M.flags:Int),.aa,.aa,.aa,.aa]) X:=fun X κ=>cZ (by kernel_rfl)
 obtain ⟨H1,hH1⟩: ∃H1,H1=H++[some (.cells [.int 65535 (M.id:Int),.int 65535 (M.flags:Int),.aa,.aa,.aa,.aa] (29+1))]:=⟨_,rfl⟩;have z1: ∀κ:Ka,ay 6 (.pto H.length 0) (.agg [.int 65535 (M.id:Int),.int 65535 (M.flags:Int),.aa,.aa,.aa,.aa]) (H++[some (.cells [.int 65535 0,.int 65535 0,.aa,.aa,.aa,.aa] (29+1))]) κ=κ (.tup []) H1:=fun κ=>by rw [hH1];exact bD rfl rfl rfl
 have l1:H1.length=H.length+1:=by rw [hH1];simp
 have o1:Old H H1:=by rw [hH1];exact Old.rfl.app _
 have b1:ab H1 H.length=some (.cells [.int 65535 (M.id:Int),.int 65535 (M.flags:Int),.aa,.aa,.aa,.aa] (29+1)):=by rw [hH1];exact aD _ _
 have t1:ab H1 tb=_:=(o1.2 tb (aJ htb)).trans htb;have ltb:=aJ htb;have e6:=c6.2.2 H1 o1;have bb:Nat.ble (ag (H++[some (Blk.cells [.int 65535 0,.int 65535 0,.aa,.aa,.aa,.aa] (29+1))])) (ag H1)=true:=by rw [cq,ah,ah,decide_eq_true_iff,l1];simp
 have cvi:=wi ok.id;have cvf:=wi ok.flags;simp only [Nat.reduceAdd] at z1 bb;simp only [sy,A7,seval,ahH,aiK,htb,ix0',mv0,e0,cvi,ix1',mv1,e1,cvf,bl,z1,bb];simp only [sy,A7,seval,aiw,agP,t1,ix6',mv6,e6,lens6'];have lens:=ok.len;refine am3 (mx:=mx) (h:=H) (Hb:=H1) (b10:=H.length) (n1:=H1.length) (m0:=m0) (kv:=kv6) (L:=M.qs) o1 (A9 _) (by omega) rfl (fun i x hx=>kids6 i _ (by rw [Bn,hx];rfl)) ok.qs (by omega) _ _ _ _ _ _ _ _ _ _ _ _ _ _ _ _ _ M.qs [] f H1 .aa _ _ (fun _=>False) [] rfl (by omega) Fx.rfl b1 (fun b hb=>hb.elim) OwR.nil rfl (fun i r x hi=>by simp at hi) fun ha qv j o N rows fa ea hN ow hr hrow=>?_
 have fa1:=fa.1;have la:eT QAt ha (fun b=>m0≤b∧b≠H.length) 4 qv M.qs:=⟨rows,ow.mono fun b hb hs=>⟨by have:=hs.1;exact ⟨by omega,by omega⟩,rfl⟩,hr,fun i r x hi hx=>(hrow i r x hi hx).mono fun b hb hs=>⟨by have:=(hN b hs).1;exact ⟨by omega,by omega⟩,rfl⟩⟩;have oa:Old H ha:=Old.pW o1 (A9 _) fa;have ta:ab ha tb=_:=(fa.2 tb (by omega) (by omega)).trans t1;simp only [mW,decide_true,bqT];refine wEq (adL ..) ?_;refine wEq (acB ..) ?_;obtain ⟨g,rfl⟩: ∃g,f=g+1+1+1+1:=⟨f-4,by omega⟩;have keep: ∀{h2 h3:AH} (fx:Fx H.length h2 h3) (b:Nat),b<h2.length→(m0≤b∧b≠H.length)→(m0≤b∧b≠H.length)∧ab h3 b=ab h2 b:=fun fx b hb hs=>⟨hs,fx.2 b hb hs.2⟩
 refine sk (mx:=mx) (h:=H) (hc:=ha) (b10:=H.length) (tb:=tb) (m0:=m0) (kvm:=kv) (L:=M.r0) (kk:=0) oa hm (A9 _) (by omega) ta k7 ok.r0 (by omega) rfl (by decide) ea rfl _ _ _ _ _ _ _ _ _ _ _ _ _ _ _ _ _ _ _ _ (g+1+1+1) (by omega) fun hb v0' _ _ _ _ _ _ _ fb eb lb=>?_
 have ob:Old H hb:=Old.pW oa (A9 _) fb;have fb1:=fb.1;have tb2:ab hb tb=_:=(fb.2 tb (by omega) (by omega)).trans ta;refine sk (mx:=mx) (h:=H) (hc:=hb) (b10:=H.length) (tb:=tb) (m0:=m0) (kvm:=kv) (L:=M.r1) (kk:=1) ob hm (A9 _) (by omega) tb2 k8 ok.r1 (by omega) rfl (by decide) eb rfl _ _ _ _ _ _ _ _ _ _ _ _ _ _ _ _ _ _ _ _ (g+1+1) (by omega) fun hc v1' _ _ _ _ _ _ _ fc ec lc=>?_
 have oc:Old H hc:=Old.pW ob (A9 _) fc;have fc1:=fc.1;have tc2:ab hc tb=_:=(fc.2 tb (by omega) (by omega)).trans tb2;refine sk (mx:=mx) (h:=H) (hc:=hc) (b10:=H.length) (tb:=tb) (m0:=m0) (kvm:=kv) (L:=M.r2) (kk:=2) oc hm (A9 _) (by omega) tc2 k9 ok.r2 (by omega) rfl (by decide) ec rfl _ _ _ _ _ _ _ _ _ _ _ _ _ _ _ _ _ _ _ _ (g+1) (by omega) fun hd v2' _ _ _ _ _ _ _ fd ed ld=>?_
 have od:Old H hd:=Old.pW oc (A9 _) fd;have g3:decide (((2+1:Nat):Int)<3)=false:=by decide
 refine de (kG mx _) ?_;simp only [sy,A7,seval,uS,n64,g3];refine k hd H.length _ _ _ _ _ _ _ _ _ _ _ _ _ _ _ od ed ⟨qv,v0',v1',v2',rfl,?_,?_,?_,?_⟩
 ·exact (((la.qF (keep fb)).qF (keep fc)).qF (keep fd)).qF fun b _ hs=>⟨hs.1,rfl⟩
 ·exact ((lb.p9 (keep fc)).p9 (keep fd)).p9 fun b _ hs=>⟨hs.1,rfl⟩
 ·exact (lc.p9 (keep fd)).p9 fun b _ hs=>⟨hs.1,rfl⟩
 ·exact ld.p9 fun b _ hs=>⟨hs.1,rfl⟩
theorem acT {bv:AV} {data:List Nat} (F:Fm h) (hs:h=HN∨It h 3 eV fL) (hdl:data.length≤1000) (hd:By data) (hlt:LtH h bv) (hbv:bv.nb=true∧bv.cells=[bv])
 (HD: ∀h',h.length≤h'.length→(∀i,i<h.length→i≠3→ab h' i=ab h i)→wJ h'.length h' bv (aI data)) (f:Nat) (hf:410000≤f):
 aL (alm h data) ((rl (CL mx) f).run 7 [.pto 6 0,bv,oI] h):=by
 obtain ⟨t,n,hn,R,hat,ht⟩:=aqN (c:=⟨data,400,1048576⟩) ⟨by show data.length≤_;omega,by show 400≤_;omega,by show 1048576≤_;omega⟩ hd (by show data.length≤_;omega) (by show 300000≤1048576;omega) (by show 100≤400;omega)
 have hat:t.at_≤data.length:=hat;obtain ⟨g,rfl⟩: ∃g,f=g+n+4+110+3010:=⟨f-n-3124,by omega⟩;have lt:=F.lt;have hlen: ∀(h':AH) (κ:Ka),bG bv h' κ=κ (N64 data.length) h':=fun h' κ=>by
  have:=(HD h (A9 _) fun _ _ _=>rfl).at.bG h' κ
  rwa [ba] at this
 have HS: ∀h',h.length≤h'.length→(∀i,i<h.length→i≠3→ab h' i=ab h i)→aL (ScR h'.length h' (t.rest ⟨data,400,1048576⟩)) ((rl (CL mx) (g+n+3119+2)).run 89 [eV,bv,oI] h'):=fun h' l e=>by
  rw [awV,show g+n+3119+2=(g+3007)+n+4+110 by omega];exact aia (mx:=mx) (M:=4) (P:=DP) (xj.pure h' (.slp ppC 60) (N64 0) .aa (ppR.headD .nil) 15) ⟨rfl,rfl⟩ hbv rfl (HD h' l e) hd (by omega) ⟨by omega,by decide⟩ (by decide) (by decide) (by decide) (fun i q e=>aqi i q e) R (by omega) (fun e=>by
   cases e2:iS data with
   |none=>rw [show iS (⟨data,400,1048576⟩:PC).data=none from e2] at ht;exact absurd e ht
   |some L=>
    rw [show iS (⟨data,400,1048576⟩:PC).data=some L from e2] at ht;obtain ⟨_,ns,_,e3⟩:=ht;exact ⟨0,false,[],_,[],e3⟩) (g+3007)
 obtain ⟨yt,hyt⟩: ∃y:Nat,y=67+1:=⟨_,rfl⟩;obtain ⟨yf,hyf⟩: ∃y:Nat,y=32+1:=⟨_,rfl⟩;obtain ⟨ym,hym⟩: ∃y:Nat,y=29+1:=⟨_,rfl⟩;obtain ⟨X,hX⟩: ∃X:Blk,X=Blk.cells [N64 1048576,N64 400,N64 1048576] (38+1):=⟨_,rfl⟩;obtain ⟨Y,hY⟩: ∃Y:Blk,Y=Blk.cells ZT yt:=⟨_,rfl⟩;obtain ⟨Z,hZ⟩: ∃Z:Blk,Z=Blk.cells [.int 9223372036854775807 0,.int 9223372036854775807 0] yf:=⟨_,rfl⟩;obtain ⟨U,hU⟩: ∃U:Blk,U=Blk.cells Z6 ym:=⟨_,rfl⟩;obtain ⟨H2,hH2⟩: ∃H2,H2=h++[some X]++[some U]++[some Z]:=⟨_,rfl⟩;have l1:(h++[some X]).length=h.length+1:=by simp
 have l2:(h++[some X]++[some U]).length=h.length+2:=by simp
 have lH2:H2.length=h.length+3:=by rw [hH2];simp
 have oH2: ∀i,i<h.length→ab H2 i=ab h i:=fun i hi=>by rw [hH2,ak (by omega),ak (by omega),ak hi]
 have x2:ab H2 h.length=some X:=by rw [hH2,ak (by omega),ak (by omega),aD]
 have u2:ab H2 (h.length+1)=some U:=by
  have:=aD (h++[some X]) (some U)
  rw [l1] at this;rw [hH2,ak (by omega)];exact this
 have z2:ab H2 (h.length+2)=some Z:=by
  have:=aD (h++[some X]++[some U]) (some Z)
  rw [l2,←hH2] at this;exact this
 have F2:Fm H2:=F.of lt fun i hi _=>oH2 i hi
 refine aL.runs (n:=g+n+3119+4) (alP mx _ _ _ _ _ _) ?_;have e1:aP kVH (aH (CL mx) (rl (CL mx) (g+n+3119+4)).run 25 [.pto 6 0] H2)=some (.vh (.pto 3 0) H2):=by rw [akD (mx:=mx) F2 (g+n+3119+2)];rfl
 have HR:aL (fun r h'=>r= .agg [N64 0,N64 0]∧It h' 3 eV fL∧Fx 3 (H2++[some X]++[some Y]++[some Z]) h') ((rl (CL mx) (g+n+3119+3)).run 54 [.pto 3 0] (H2++[some X]++[some Y]++[some Z])):=by
  rcases hs with rfl|I
  ·have e:H2++[some X]++[some Y]++[some Z]=HN++HZ:=by
    rw [hH2,hX,hY,hZ,hU,hyt,hyf,hym];simp only [BJ,Ca,BO,HZ,Z6]
   rw [e];exact ⟨_,_,amA (g+n+3118),rfl,ax9,axm⟩
  ·exact ai5 (((I.of (oH2 3 (by omega))).app _).app _|>.app _) (g+n+3119)
 obtain ⟨r,h3,e4,I3,F3,s3⟩:=aL.call (C:=CL mx) (agH (mx:=mx) (F:=t.rest ⟨data,400,1048576⟩) (h:=H2) (i0:=3) (cp:=eV) (wp:=fL) (H0:=H2++[some X]++[some Y]++[some Z]) (bv:=bv) (k:=data.length) (a:=1048576) (b:=400) (c:=1048576) hlen (by omega) (g+n+3119) (by rw [hX,hY,hZ,hyt,hyf]) HR fun h' l e=>HS h' (by omega) fun i hi hn=>(e i (by omega) hn).trans (oH2 i hi));have e4':aP kVH (aH (CL mx) (rl (CL mx) (g+n+3119+4)).run 26 [.pto 3 0,bv,oI] H2)=some (.vh r h3):=by
  rw [show oI=AV.agg [N64 1048576,N64 400,N64 1048576] from rfl,e4];rfl
 have ld3: ∀κ:Ka,aF 3 (.pto h.length 0) H2 κ=κ oI H2:=fun κ=>bg (n:=3) (x2.trans (by rw [hX])) rfl κ
 have ld3g:aF 3 (.pto h.length 0) (aN (ag H2) H2) kVH=some (.vh oI (aN (ag H2) H2)):=by rw [eM];exact ld3 kVH
 have l3:=F3.1;have F3':Fx 3 h h3:=Fx.trans ⟨by omega,fun i hi _=>oH2 i hi⟩ F3;have u3:=(F3.2 (h.length+1) (by omega) (by omega)).trans u2;have z3:=(F3.2 (h.length+2) (by omega) (by omega)).trans z2;rw [hZ] at z3;rw [hU] at u3;refine wEq (aiD ..) ?_;rw [oI,dK];have sX:=hX;have sU:=hU;have sZ:=hZ;rw [hym] at sU;rw [hyf] at sZ;simp only [Nat.reduceAdd,Z6] at sX sU sZ;simp only [eB,bqT,show (AV.agg [N64 1048576,N64 400,N64 1048576]).nb=true from rfl,show (AV.agg [N64 1048576,N64 400,N64 1048576]).cells=[N64 1048576,N64 400,N64 1048576] from rfl,←sX,←sU,←sZ,l1,l2,←hH2]
 -- what Scan told
 obtain ⟨q,c1,c2,er,q4,qp,hcase⟩: ∃(q:List AV) (c1 c2:Nat),r= .tup [.agg q,.agg [N64 c1,N64 c2]]∧q.length=4∧aO q=true∧((c1≠0∧(t.rest ⟨data,400,1048576⟩).code≠0)∨(c1=0∧c2=0∧ ∃n' b' d' t0 ks,(t.rest ⟨data,400,1048576⟩).code=0∧(t.rest ⟨data,400,1048576⟩).stack=[.nd n' b' d' (t0::ks)]∧eX h3 (fun b=>H2.length≤b) q t0)):=by
  rcases s3 with ⟨c0,e⟩|⟨c0,n',b',d',t0,ks,q0,e0,e,T⟩
  ·exact ⟨ZT,_,_,e,rfl,rfl,.inl ⟨c0,c0⟩⟩
  ·exact ⟨q0,0,0,e,T.four.1,T.four.2,.inr ⟨rfl,rfl,n',b',d',t0,ks,c0,e0,T⟩⟩
 obtain ⟨H4,hH4⟩: ∃H4,H4=h3++[some Y]:=⟨_,rfl⟩;obtain ⟨H5,hH5⟩: ∃H5,H5=H4++[some Z]:=⟨_,rfl⟩;have l4:H4.length=h3.length+1:=by rw [hH4];simp
 have l5:H5.length=h3.length+2:=by rw [hH5];simp [l4]
 have y5:ab H5 h3.length=some (.cells ZT yt):=by rw [hH5,ak (by omega),hH4,aD,hY]
 have z5:ab H5 H4.length=some (.cells [.int 9223372036854775807 0,.int 9223372036854775807 0] yf):=by rw [hH5,aD,hZ]
 have o5: ∀i,i<h3.length→ab H5 i=ab h3 i:=fun i hi=>by rw [hH5,ak (by omega),hH4,ak hi]
 obtain ⟨H6,hH6⟩: ∃H6,H6=H5.set h3.length (some (.cells q yt)):=⟨_,rfl⟩;obtain ⟨H7,hH7⟩: ∃H7,H7=H6.set H4.length (some (.cells [N64 c1,N64 c2] yf)):=⟨_,rfl⟩;have l6:H6.length=h3.length+2:=by rw [hH6,Bb,l5]
 have l7:H7.length=h3.length+2:=by rw [hH7,Bb,l6]
 have z6:ab H6 H4.length=some (.cells [.int 9223372036854775807 0,.int 9223372036854775807 0] yf):=by rw [hH6,ae (by omega)];exact z5
 have st3: ∀κ:Ka,ay 4 (.pto h3.length 0) (.agg q) H5 κ=κ (.tup []) H6:=fun κ=>by rw [hH6];exact bB y5 rfl q4 qp κ
 have st4: ∀κ:Ka,ay 2 (.pto H4.length 0) (.agg [N64 c1,N64 c2]) H6 κ=κ (.tup []) H7:=fun κ=>by rw [hH7];exact bB (n:=2) (q:=[N64 c1,N64 c2]) z6 rfl rfl rfl κ
 have o7: ∀i,i<h3.length→ab H7 i=ab h3 i:=fun i hi=>by rw [hH7,ae (by omega),hH6,ae (by omega),o5 i hi]
 have t7:ab H7 h3.length=some (.cells q yt):=by rw [hH7,ae (by omega),hH6];exact aq (by omega) _
 have f7:ab H7 H4.length=some (.cells [N64 c1,N64 c2] yf):=by rw [hH7];exact aq (by omega) _
 have mkY: ∀h:AH,cU h (.cells [.int 18446744073709551615 0,.bool false,.aa,.aa] (67+1)) kVH=some (.vh (.pto h.length 0) (h++[some Y])):=fun h=>by rw [eB,hY,hyt];rfl
 have mkZ: ∀h:AH,cU h (.cells [.int 9223372036854775807 0,.int 9223372036854775807 0] (32+1)) kVH=some (.vh (.pto h.length 0) (h++[some Z])):=fun h=>by rw [eB,hZ,hyf];rfl
 have avF: ∀h:AH,fu 0 r h kVH=some (.vh (.agg q) h):=fun h=>by rw [er,jH];rfl
 have ext1: ∀h:AH,fu 1 r h kVH=some (.vh (.agg [N64 c1,N64 c2]) h):=fun h=>by rw [er,jH];rfl
 refine wEq (ajc ..) ?_;refine wRd (v:=.pto 6 0) rfl ?_;refine wEf e1 (A9 _) ?_;refine wRd (v:=bv) rfl ?_;refine wRd (ld3 kVH) ?_;refine wEf e4' l3 ?_;refine wRd (v:=r) rfl ?_;refine wRd (avF _) ?_;refine wRd (ext1 _) ?_;refine wMk (w:=fun n=>.pto n 0) (B:=some Y) mkY hH4 ?_;refine wMk (w:=fun n=>.pto n 0) (B:=some Z) mkZ hH5 ?_;refine wEf (st3 kVH) (show H5.length≤H6.length by omega) ?_;refine wEf (st4 kVH) (show H6.length≤H7.length by omega) ?_;refine bC (aw hlt (show h.length≤H2.length by omega) rfl) ?_;refine bC (aw (h0:=H2) (fun _ _=>rfl) (A9 _) ld3g) ?_;refine bC (aw (h0:=h3) (fun _ _=>rfl) (A9 _) (ext1 _)) ?_;refine aji ?_;have F7:Fx 3 h H7:=Fx.trans F3' ⟨by omega,fun i hi _=>o7 i hi⟩;have I7:It H7 3 eV fL:=I3.of (o7 3 (by omega));have u7:=(o7 (h.length+1) (by omega)).trans u3;have z7:=(o7 (h.length+2) (by omega)).trans z3
 -- the end
 have en: ∀(H8:AH) (cs:List AV) (a1 a2:Nat) V v9 v10 j p s u v46 v47 z o v76 A E G J K,cs.length=6→ab H8 (h.length+1)=some (.cells cs ym)→ab H8 (h.length+2)=some (.cells [N64 a1,N64 a2] yf)→alm h data (.tup [.agg cs,.agg [N64 a1,N64 a2]]) H8→Ends (alm h data) (kcE (CL mx) [.cell 6 29,.cell 7 32] ⟨az (.pto 6 0) bv oI (.pto h.length 0) (.pto (h.length+1) 0) (.pto (h.length+2) 0) V v9 v10 j p s u v46 v47 z o v76 A E G J K,H8⟩):=by
  intro H8 cs a1 a2 V v9 v10 j p s u v46 v47 z o v76 A E G J K h6 e1 e2 e3;rw [ajV];refine wEq (bg (n:=6) e1 h6 _) ?_;refine wEq (bg (n:=2) e2 rfl _) ?_;exact Ends.mk e3
 have ht2:match iS data with
  |none=>(t.rest ⟨data,400,1048576⟩).code≠0
  |some m=>(t.rest ⟨data,400,1048576⟩).code=0∧ ∃ns:List Nat,ns.length=4∧t.stack=[.nd 0 false [] [aie m ns]]:=ht
 refine wEq (ahu ..) ?_;refine wEq (aiM ..) ?_;have f7':=f7;simp only [n64] at f7';rcases hcase with ⟨hc1,hcode⟩|⟨rfl,rfl,n',b',d',t0,ks,c0,e0,T⟩
 ·have none_:iS data=none:=by
   cases e2:iS data with
   |none=>rfl
   |some L=>rw [e2] at ht2;exact absurd ht2.1 hcode
  have g1:decide ((c1:Int)≠0)=true:=by rw [decide_eq_true_iff];omega
  simp only [sy,A7,seval,f7',g1];obtain ⟨H8,hH8⟩: ∃H8,H8=H7.set (h.length+1) (some (.cells Z6 ym)):=⟨_,rfl⟩;obtain ⟨H9,hH9⟩: ∃H9,H9=H8.set (h.length+2) (some (.cells [N64 c1,N64 c2] yf)):=⟨_,rfl⟩;have l8:H8.length=H7.length:=by rw [hH8,Bb]
  have l9:H9.length=H7.length:=by rw [hH9,Bb,l8]
  have z8:ab H8 (h.length+2)=_:=(by rw [hH8,ae (by omega)]:ab H8 (h.length+2)=ab H7 (h.length+2)).trans z7;have lf: ∀κ:Ka,aF 2 (.pto H4.length 0) H7 κ=κ (.agg [N64 c1,N64 c2]) H7:=fun κ=>bg (n:=2) f7 rfl κ
  have lfg:aF 2 (.pto H4.length 0) (aN (ag H7) H8) kVH=some (.vh (.agg [N64 c1,N64 c2]) (aN (ag H7) H8)):=bg (n:=2) (q:=[N64 c1,N64 c2]) (y:=yf) (by rw [uU,if_pos (by rw [ah];omega),hH8,ae (by omega)];exact f7) rfl kVH
  have s8: ∀κ:Ka,ay 6 (.pto (h.length+1) 0) (.agg Z6) H7 κ=κ (.tup []) H8:=fun κ=>by rw [hH8];exact bB (n:=6) u7 rfl rfl rfl κ
  have s9: ∀κ:Ka,ay 2 (.pto (h.length+2) 0) (.agg [N64 c1,N64 c2]) H8 κ=κ (.tup []) H9:=fun κ=>by rw [hH9];exact bB (n:=2) (q:=[N64 c1,N64 c2]) z8 rfl rfl rfl κ
  refine wEq (ajz ..) ?_;refine wRd (kK _ Z6 _ kVH) ?_;refine wRd (lf kVH) ?_;refine wEf (s8 kVH) (show H7.length≤H8.length by omega) ?_;refine wEf (s9 kVH) (show H8.length≤H9.length by omega) ?_;refine bC (aw (h0:=H7) (fun _ _=>rfl) (A9 _) lfg) ?_;refine aji ?_;refine wEq (ahp ..) ?_;rw [iQ];have o9: ∀i,i≠h.length+1→i≠h.length+2→ab H9 i=ab H7 i:=fun i h1 h2=>by rw [hH9,ae (Ne.symm h2),hH8,ae (Ne.symm h1)]
  refine en H9 Z6 c1 c2 _ _ _ _ _ _ _ _ _ _ _ _ _ _ _ _ _ rfl (by rw [hH9,ae (by omega),hH8];exact aq (by omega) _) (by rw [hH9];exact aq (by omega) _) ⟨⟨by have:=F7.1;omega,fun i hi hn=>(o9 i (by omega) (by omega)).trans (F7.2 i hi hn)⟩,?_,?_⟩
  ·exact I7.of (o9 3 (by omega) (by omega))
  ·rw [none_];exact ⟨c1,c2,hc1,rfl⟩
 ·obtain ⟨M,hM⟩: ∃M,iS data=some M:=by
   cases e2:iS data with
   |none=>rw [e2] at ht2;exact absurd c0 ht2
   |some M=>exact ⟨M,rfl⟩
  rw [hM] at ht2;obtain ⟨_,ns,hns,e3⟩:=ht2;have et:t0=aie M ns:=by
   have rs:(t.rest ⟨data,400,1048576⟩).stack=t.stack:=by
    unfold PR.rest
    split
    ·exact (jR t 216 t.at_).1
    ·rfl
   rw [rs,e3] at e0
   simp at e0
   exact e0.2.2.2.1.symm
  rw [et] at T;have T7:eX H7 (fun b=>H2.length≤b) q (aie M ns):=T.mono _ fun b hb hs=>⟨hs,o7 b hb⟩
  have g1:decide ((0:Int)≠0)=false:=by decide
  have f70:ab H7 H4.length=some (.cells [.int 9223372036854775807 0,.int 9223372036854775807 0] yf):=f7;simp only [sy,A7,seval,f70,g1];refine avR (mx:=mx) (H:=H7) (tb:=h3.length) (yt:=yt) (ym:=ym) (m0:=H2.length) (h:=h) (atL data M hd hdl hM) hns (by omega) T7 t7 _ _ _ _ _ _ _ _ _ _ _ _ _ _ _ _ _ _ _ _ _ (g+n+3119+4) (by omega) fun H8 b cs j p s u v46 v47 z o v76 A E G J K o8 eb ma=>?_
  have o81:=o8.1;have u8:=(o8.2 (h.length+1) (by omega)).trans u7;have z8:=(o8.2 (h.length+2) (by omega)).trans z7;obtain ⟨c6,cp⟩:cs.length=6∧aO cs=true:=by
   obtain ⟨qv,w0,w1,w2,rfl,⟨_,a0,_⟩,⟨_,a1,_⟩,⟨_,a2,_⟩,⟨_,a3,_⟩⟩:=ma;refine ⟨rfl,?_⟩;show and true (and true (and qv.plain (and w0.plain (and w1.plain (and w2.plain true)))))=true;rw [a0.plain,a1.plain,a2.plain,a3.plain];rfl
  obtain ⟨H9,hH9⟩: ∃H9,H9=H8.set (h.length+1) (some (.cells cs ym)):=⟨_,rfl⟩;obtain ⟨H10,hH10⟩: ∃H10,H10=H9.set (h.length+2) (some (.cells [N64 0,N64 0] yf)):=⟨_,rfl⟩;have l9:H9.length=H8.length:=by rw [hH9,Bb]
  have l10:H10.length=H8.length:=by rw [hH10,Bb,l9]
  have z9:ab H9 (h.length+2)=_:=(by rw [hH9,ae (by omega)]:ab H9 (h.length+2)=ab H8 (h.length+2)).trans z8;have s9: ∀κ:Ka,ay 6 (.pto (h.length+1) 0) (.agg cs) H8 κ=κ (.tup []) H9:=fun κ=>by rw [hH9];exact bB (n:=6) u8 rfl c6 cp κ
  have s10: ∀κ:Ka,ay 2 (.pto (h.length+2) 0) (.agg [N64 0,N64 0]) H9 κ=κ (.tup []) H10:=fun κ=>by rw [hH10];exact bB (n:=2) (q:=[N64 0,N64 0]) z9 rfl rfl rfl κ
  have o10: ∀i,i≠h.length+1→i≠h.length+2→ab H10 i=ab H8 i:=fun i h1 h2=>by rw [hH10,ae (Ne.symm h2),hH9,ae (Ne.symm h1)]
  refine wEq (aec ..) ?_;refine wEq (bg (n:=6) eb c6 _) ?_;rw [kK];refine wEq (s9 _) ?_;refine wEq (s10 _) ?_;rw [iQ];refine en H10 cs 0 0 _ _ _ _ _ _ _ _ _ _ _ _ _ _ _ _ _ c6 (by rw [hH10,ae (by omega),hH9];exact aq (by omega) _) (by rw [hH10];exact aq (by omega) _) ⟨⟨by have:=F7.1;omega,fun i hi hn=>((o10 i (by omega) (by omega)).trans (o8.2 i (by omega))).trans (F7.2 i hi hn)⟩,?_,?_⟩
  ·exact (I7.of (o8.2 3 (by omega))).of (o10 3 (by omega) (by omega))
  ·rw [hM]
   refine ⟨cs,rfl,?_⟩;obtain ⟨qv,w0,w1,w2,e,a0,a1,a2,a3⟩:=ma;have mo: ∀b,b<H8.length→H2.length≤b→True∧ab H10 b=ab H8 b:=fun b hb hs=>⟨trivial,o10 b (by omega) (by omega)⟩
   exact ⟨qv,w0,w1,w2,e,a0.qF mo,a1.p9 mo,a2.p9 mo,a3.p9 mo⟩
end
end Go.Proofs.YtemmgalfdmnkoaaGreatDoor
