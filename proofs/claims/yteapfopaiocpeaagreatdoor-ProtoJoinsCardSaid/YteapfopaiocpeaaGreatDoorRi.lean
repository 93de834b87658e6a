/- An item of package shelf that was made: how it is asked, and what is counted. The functions' code is printed by a program. -/
import Derived.Test.YteapfopaiocpeaaGreatDoorSz
namespace Go.Proofs.YteapfopaiocpeaaGreatDoor
set_option linter.unusedSimpArgs false
set_option linter.unusedVariables false
set_option linter.unnecessarySimpa false
set_option linter.defProp false
noncomputable section
def yJ (v0 v1 v2:AV):Tm:=(.nd 1 (.lf 0 v0) (.nd 2 (.lf 1 v1) (.lf 2 v2)))
def acz (mx:Int):K:=kAt [] (kOf (CL mx) 45)
section
set_option maxRecDepth 100000
variable (mx:Int) (run:Run) (lp:Lp) (κn:Kt) (κx:Ex→Kt) (h:AH) (v0 v1 v2:AV)
theorem ahu:kc (CL mx) run lp (acz mx) ⟨yJ v0 v1 v2,h⟩ κn κx=gZ 72 v0 h (fun a0 h=>dY h (.cells [.int 9223372036854775807 0,.int 9223372036854775807 0] 28) (fun a1 h=>ar a0 h (fun a2 h=>aC a2 h (fun a3 h=>ao 14 a3 h (fun a4 h=>aL (fun a5 h=>ar a0 h (fun a6 h=>aC a6 h (fun a7 h=>ao 4 a7 h (fun a8 h=>(fun a9 h=>aL (fun a10 h=>ar a0 h (fun a11 h=>aC a11 h (fun a12 h=>ao 12 a12 h (fun a13 h=>aQ 2 a13 h (fun a14 h=>aK 2 a1 a14 h (fun a15 h=>κx .ret ⟨yJ v0 a0 a1,h⟩)))))) (aD (CL mx) run 68 [a8,a9] h)) (.fn 69 [] [a0]) h)))) (aD (CL mx) run 67 [a4,(.int 9223372036854775807 1)] h)))))):=by kernel_rfl
theorem aa9:kcE (CL mx) [.cell 2 27] ⟨yJ v0 v1 v2,h⟩=aQ 2 v2 h (fun r0 _=>some (.vh r0 h)):=(bJ _ _ _).trans (by kernel_rfl)
theorem anD:dp (CL mx) 45=some ⟨acz mx,[0,1,2],16,[.cell 2 27]⟩:=by kernel_rfl
end
theorem al7 (mx:Int) (run:Run) (lp:Lp) (x0:AV) (h:AH):cW (CL mx) run lp 45 [x0] h=vhO (kc (CL mx) run lp (acz mx) ⟨yJ x0 .bot .bot,h⟩ (kcE (CL mx) [.cell 2 27]) (kcQ (CL mx) [.cell 2 27])):=(bK (by kernel_rfl) (anD mx) (by kernel_rfl)).trans (by kernel_rfl)
def arK:=And.intro @ahu (@aa9)
def aaP (v0 v1 v8:AV):Tm:=(.nd 1 (.lf 0 v0) (.nd 8 (.lf 1 v1) (.lf 8 v8)))
def ale (mx:Int):K:=kAt [] (kOf (CL mx) 68)
section
set_option maxRecDepth 100000
variable (mx:Int) (run:Run) (lp:Lp) (κn:Kt) (κx:Ex→Kt) (h:AH) (v0 v1 v8:AV)
theorem akq:kc (CL mx) run lp (ale mx) ⟨aaP v0 v1 v8,h⟩ κn κx=aC v0 h (fun a0 h=>ao 0 a0 h (fun a1 h=>aL (fun a2 h=>ot a2 h (fun a3 h=>bG a3 (aL (fun a4 h=>κn ⟨aaP v0 v1 a3,h⟩) (aD (CL mx) run 107 [v0,v1] h)) (κn ⟨aaP v0 v1 a3,h⟩))) (aD (CL mx) run 106 [a1] h))):=by kernel_rfl
theorem aoq:kcE (CL mx) [] ⟨aaP v0 v1 v8,h⟩=some (.vh (.tup []) h):=(bJ _ _ _).trans (by kernel_rfl)
theorem arb:dp (CL mx) 68=some ⟨ale mx,[0,1,8],12,[]⟩:=by kernel_rfl
end
theorem aph (mx:Int) (run:Run) (lp:Lp) (x0 x1:AV) (h:AH):cW (CL mx) run lp 68 [x0,x1] h=vhO (kc (CL mx) run lp (ale mx) ⟨aaP x0 x1 .bot,h⟩ (kcE (CL mx) []) (kcQ (CL mx) [])):=(bK (by kernel_rfl) (arb mx) (by kernel_rfl)).trans (by kernel_rfl)
def apv:=And.intro @akq (@aoq)
def yp (v0 v1 v4:AV):Tm:=(.nd 1 (.lf 0 v0) (.nd 4 (.lf 1 v1) (.lf 4 v4)))
def ab5 (mx:Int):K:=kAt [] (kOf (CL mx) 67)
section
set_option maxRecDepth 100000
variable (mx:Int) (run:Run) (lp:Lp) (κn:Kt) (κx:Ex→Kt) (h:AH) (v0 v1 v4:AV)
theorem afI:kc (CL mx) run lp (ab5 mx) ⟨yp v0 v1 v4,h⟩ κn κx=aC v0 h (fun a0 h=>ao 0 a0 h (fun a1 h=>aL (fun a2 h=>κx .ret ⟨yp v0 v1 a2,h⟩) (aD (CL mx) run 105 [a1,v1] h))):=by kernel_rfl
theorem amn:kcE (CL mx) [.tmp 4] ⟨yp v0 v1 v4,h⟩=some (.vh v4 h):=(bJ _ _ _).trans (by kernel_rfl)
theorem an5:dp (CL mx) 67=some ⟨ab5 mx,[0,1,4],10,[.tmp 4]⟩:=by kernel_rfl
end
theorem al1 (mx:Int) (run:Run) (lp:Lp) (x0 x1:AV) (h:AH):cW (CL mx) run lp 67 [x0,x1] h=vhO (kc (CL mx) run lp (ab5 mx) ⟨yp x0 x1 .bot,h⟩ (kcE (CL mx) [.tmp 4]) (kcQ (CL mx) [.tmp 4])):=(bK (by kernel_rfl) (an5 mx) (by kernel_rfl)).trans (by kernel_rfl)
def ard:=And.intro @afI (@amn)
def xO (v0 v1 v4:AV):Tm:=(.nd 1 (.lf 0 v0) (.nd 4 (.lf 1 v1) (.lf 4 v4)))
def adu (mx:Int):K:=kAt [] (kOf (CL mx) 115)
section
set_option maxRecDepth 100000
variable (mx:Int) (run:Run) (lp:Lp) (κn:Kt) (κx:Ex→Kt) (h:AH) (v0 v1 v4:AV)
theorem afM:kc (CL mx) run lp (adu mx) ⟨xO v0 v1 v4,h⟩ κn κx=aC v0 h (fun a0 h=>ao 0 a0 h (fun a1 h=>aL (fun a2 h=>κx .ret ⟨xO v0 v1 a2,h⟩) (aD (CL mx) run 181 [a1,v1] h))):=by kernel_rfl
theorem alp:kcE (CL mx) [.tmp 4] ⟨xO v0 v1 v4,h⟩=some (.vh v4 h):=(bJ _ _ _).trans (by kernel_rfl)
theorem aog:dp (CL mx) 115=some ⟨adu mx,[0,1,4],10,[.tmp 4]⟩:=by kernel_rfl
end
theorem amf (mx:Int) (run:Run) (lp:Lp) (x0 x1:AV) (h:AH):cW (CL mx) run lp 115 [x0,x1] h=vhO (kc (CL mx) run lp (adu mx) ⟨xO x0 x1 .bot,h⟩ (kcE (CL mx) [.tmp 4]) (kcQ (CL mx) [.tmp 4])):=(bK (by kernel_rfl) (aog mx) (by kernel_rfl)).trans (by kernel_rfl)
def arD:=And.intro @afM (@alp)
def aek (v0 v2:AV):Tm:=(.nd 2 (.lf 0 v0) (.lf 2 v2))
def aj7 (mx:Int):K:=kAt [] (kOf (CL mx) 106)
section
set_option maxRecDepth 100000
variable (mx:Int) (run:Run) (lp:Lp) (κn:Kt) (κx:Ex→Kt) (h:AH) (v0 v2:AV)
theorem amq:kc (CL mx) run lp (aj7 mx) ⟨aek v0 v2,h⟩ κn κx=aC v0 h (fun a0 h=>ao 0 a0 h (fun a1 h=>aL (fun a2 h=>cmp ine a2 (.int 4294967295 0) h (fun a3 h=>κx .ret ⟨aek v0 a3,h⟩)) (aD (CL mx) run 152 [a1] h))):=by kernel_rfl
theorem anj:kcE (CL mx) [.tmp 2] ⟨aek v0 v2,h⟩=some (.vh v2 h):=(bJ _ _ _).trans (by kernel_rfl)
theorem aqI:dp (CL mx) 106=some ⟨aj7 mx,[0,2],8,[.tmp 2]⟩:=by kernel_rfl
end
theorem aoA (mx:Int) (run:Run) (lp:Lp) (x0:AV) (h:AH):cW (CL mx) run lp 106 [x0] h=vhO (kc (CL mx) run lp (aj7 mx) ⟨aek x0 .bot,h⟩ (kcE (CL mx) [.tmp 2]) (kcQ (CL mx) [.tmp 2])):=(bK (by kernel_rfl) (aqI mx) (by kernel_rfl)).trans (by kernel_rfl)
def asH:=And.intro @amq (@anj)
def uN (v0 v1 v2 v3 v7 v26:AV):Tm:=(.nd 3 (.nd 1 (.lf 0 v0) (.nd 2 (.lf 1 v1) (.lf 2 v2))) (.nd 7 (.lf 3 v3) (.nd 26 (.lf 7 v7) (.lf 26 v26))))
def acb (mx:Int):K:=kAt [] (kOf (CL mx) 73)
section
set_option maxRecDepth 100000
variable (mx:Int) (run:Run) (lp:Lp) (κn:Kt) (κx:Ex→Kt) (h:AH) (v0 v1 v2 v3 v7 v26:AV)
theorem aht:kc (CL mx) run lp (acb mx) ⟨uN v0 v1 v2 v3 v7 v26,h⟩ κn κx=gZ 28 v3 h (fun a0 h=>aC v0 h (fun a1 h=>ao 0 a1 h (fun a2 h=>aL (fun a3 h=>aC v0 h (fun a4 h=>ao 2 a4 h (fun a5 h=>cvI 18446744073709551615 v1 h (fun a6 h=>aL (fun a7 h=>aC v0 h (fun a8 h=>ao 3 a8 h (fun a9 h=>cvI 18446744073709551615 v2 h (fun a10 h=>aL (fun a11 h=>ao 0 a0 h (fun a12 h=>ar a12 h (fun a13 h=>cmp ine a13 (.int 9223372036854775807 0) h (fun a14 h=>bG a14 (aC v0 h (fun a15 h=>ao 1 a15 h (fun a16 h=>aL (fun a17 h=>κn ⟨uN v0 v1 v2 v3 a0 a14,h⟩) (aD (CL mx) run 115 [a16,(.int 18446744073709551615 1)] h)))) (κn ⟨uN v0 v1 v2 v3 a0 a14,h⟩))))) (aD (CL mx) run 115 [a9,a10] h))))) (aD (CL mx) run 115 [a5,a6] h))))) (aD (CL mx) run 115 [a2,(.int 18446744073709551615 1)] h)))):=by kernel_rfl
theorem akF:kcE (CL mx) [] ⟨uN v0 v1 v2 v3 v7 v26,h⟩=some (.vh (.tup []) h):=(bJ _ _ _).trans (by kernel_rfl)
theorem aom:dp (CL mx) 73=some ⟨acb mx,[0,1,2,3,7,26],31,[]⟩:=by kernel_rfl
end
theorem alD (mx:Int) (run:Run) (lp:Lp) (x0 x1 x2 x3:AV) (h:AH):cW (CL mx) run lp 73 [x0,x1,x2,x3] h=vhO (kc (CL mx) run lp (acb mx) ⟨uN x0 x1 x2 x3 .bot .bot,h⟩ (kcE (CL mx) []) (kcQ (CL mx) [])):=(bK (by kernel_rfl) (aom mx) (by kernel_rfl)).trans (by kernel_rfl)
def rj:=And.intro @aht (@akF)
def itL (c0 c1 c2 c3 c5 c6 cp wp c9 c10 c11 c15:AV) (a s f b t p:Int):List AV:=[c0,c1,c2,c3,.int 4294967295 1,c5,c6,cp,wp,c9,c10,c11,.int 9223372036854775807 0,.int 9223372036854775807 0,.int 9223372036854775807 a,c15,.int 18446744073709551615 s,.int 18446744073709551615 f,.int 18446744073709551615 b,.int 18446744073709551615 t,.int 18446744073709551615 p]
end
def It (h:AH) (i:Nat) (cp wp:AV):Prop:=∃c0 c1 c2 c3 c5 c6 c9 c10 c11 c15 a s f b t p y,ae h i=some (.cells (itL c0 c1 c2 c3 c5 c6 cp wp c9 c10 c11 c15 a s f b t p) y)
def Fx (i0:Nat) (h h':AH):Prop:=h.length≤h'.length∧ ∀i,i<h.length→i≠i0→ae h' i=ae h i
section
variable {mx:Int} {h h' h2:AH} {i0:Nat} {cp wp:AV}
theorem Fx.rfl:Fx i0 h h:=⟨Nat.le_refl _,fun _ _ _=>(by rfl)⟩
theorem Fx.trans (a:Fx i0 h h') (b:Fx i0 h' h2):Fx i0 h h2:=⟨Nat.le_trans a.1 b.1,fun i hi hn=>(b.2 i (Nat.lt_of_lt_of_le hi a.1) hn).trans (a.2 i hi hn)⟩
theorem Fx.app (x:AH):Fx i0 h (h++x):=⟨by simp,fun i hi _=>aq hi x⟩
theorem Fx.set (x:Option Blk):Fx i0 h (h.set i0 x):=⟨by simp,fun i hi hn=>ai (Ne.symm hn) _⟩
theorem Fx.adj {j:Nat} (hj:h.length≤j) (a:Fx i0 h h') (x:Option Blk):Fx i0 h (h'.set j x):=⟨by rw [List.length_set];exact a.1,fun i hi hn=>by rw [ai (by omega)];exact a.2 i hi hn⟩
theorem It.lt (I:It h i0 cp wp):i0<h.length:=by
 obtain ⟨c0,c1,c2,c3,c5,c6,c9,c10,c11,c15,a,s,f,b,t,p,y,e⟩:=I
 exact aO e
theorem It.of (I:It h i0 cp wp) (e:ae h' i0=ae h i0):It h' i0 cp wp:=by
 obtain ⟨c0,c1,c2,c3,c5,c6,c9,c10,c11,c15,a,s,f,b,t,p,y,h1⟩:=I
 exact ⟨c0,c1,c2,c3,c5,c6,c9,c10,c11,c15,a,s,f,b,t,p,y,by rw [e];exact h1⟩
theorem It.app (I:It h i0 cp wp) (x:AH):It (h++x) i0 cp wp:=I.of (aq I.lt x)
theorem aaG {m:Nat} {b o y:Nat} {cs:List AV} {n:Int} (hb:ae h b=some (.cells cs y)) (hc:cs[o]? =some (.int m n)) (x:Int):mV m [.pto b o,.int m x] h=some (.int m (aZ m (fu n x)),h.set b (some (.cells (cs.set o (.int m (aZ m (fu n x)))) y))):=by
 show fU h b o (fun c s=>mW m c fun z=>mW m (.int m x) fun n=>some (.int m (aZ m (fu z n)),s (.int m (aZ m (fu z n)))))=_
 unfold fU
 simp only [hb]
 rw [bt,hc,aT]
 show bq (Nat.beq m m) (bq (Nat.beq m m) (some (AV.int m (aZ m (fu n x)),bp (some (Blk.cells (bp (.int m (aZ m (fu n x))) cs o) y)) h b)) none) none=_
 rw [Nat.beq_refl,bqT,bqT,cn,cn]
theorem agQ {b o y:Nat} {cs:List AV} {n:Int} (hb:ae h b=some (.cells cs y)) (hc:cs[o]? =some (.int 9223372036854775807 n)) (x:Int) (f:Nat):aG (fun r h'=>∃n',r= .int 9223372036854775807 n'∧h'=h.set b (some (.cells (cs.set o (.int 9223372036854775807 n')) y))) ((rl (CL mx) (f+1)).run 67 [.pto b o,.int 9223372036854775807 x] h):=by
 refine aG.runs (n:=f) (al1 mx _ _ _ _ _) ?_
 have e:=(qQ (C:=CL mx) (run:=(rl (CL mx) f).run) (f:=105) (args:=[.pto b o,.int 9223372036854775807 x]) (h:=h) (g:=mV 9223372036854775807) (by kernel_rfl)).trans (aaG hb hc x)
 simp only [sy,List.length_append,Nat.reduceAdd,Nat.reduceMul,Nat.reduceSub,Nat.reduceLeDiff,Nat.reduceEqDiff,Nat.reduceLT,reduceIte,ard,e]
 exact Ends.mk ⟨_,rfl,rfl⟩
theorem nP {b o y:Nat} {cs:List AV} {n:Int} (hb:ae h b=some (.cells cs y)) (hc:cs[o]? =some (.int 18446744073709551615 n)) (x:Int) (f:Nat):aG (fun r h'=>∃n',r= .int 18446744073709551615 n'∧h'=h.set b (some (.cells (cs.set o (.int 18446744073709551615 n')) y))) ((rl (CL mx) (f+1)).run 115 [.pto b o,.int 18446744073709551615 x] h):=by
 refine aG.runs (n:=f) (amf mx _ _ _ _ _) ?_
 have e:=(qQ (C:=CL mx) (run:=(rl (CL mx) f).run) (f:=181) (args:=[.pto b o,.int 18446744073709551615 x]) (h:=h) (g:=mV 18446744073709551615) (by kernel_rfl)).trans (aaG hb hc x)
 simp only [sy,List.length_append,Nat.reduceAdd,Nat.reduceMul,Nat.reduceSub,Nat.reduceLeDiff,Nat.reduceEqDiff,Nat.reduceLT,reduceIte,arD,e]
 exact Ends.mk ⟨_,rfl,rfl⟩
theorem afQ (I:It h i0 cp wp) (a b c d:Int) (f:Nat):aG (fun r h'=>It h' i0 cp wp∧Fx i0 h h') ((rl (CL mx) (f+2)).run 73 [.pto i0 16,.int 9223372036854775807 a,.int 9223372036854775807 b,.agg [.int 9223372036854775807 c,.int 9223372036854775807 d]] h):=by
 refine aG.runs (n:=f+1) (alD mx _ _ _ _ _ _ _) ?_
 obtain ⟨c0,c1,c2,c3,c5,c6,c9,c10,c11,c15,q,s,ff,bb,t,p,y,hi⟩:=I
 have lt:=aO hi
 simp only [sy,List.length_append,Nat.reduceAdd,Nat.reduceMul,Nat.reduceSub,Nat.reduceLeDiff,Nat.reduceEqDiff,Nat.reduceLT,reduceIte,rj,dP,show (AV.agg [.int 9223372036854775807 c,.int 9223372036854775807 d]).nb=true from rfl,show (AV.agg [AV.int 9223372036854775807 c,.int 9223372036854775807 d]).cells=[.int 9223372036854775807 c,.int 9223372036854775807 d] from rfl]
 obtain ⟨X,hX⟩: ∃X:Blk,X=Blk.cells [.int 9223372036854775807 c,.int 9223372036854775807 d] (27+1):=⟨_,rfl⟩
 rw [show Blk.cells [AV.int 9223372036854775807 c,.int 9223372036854775807 d] (27+1)=X from hX.symm]
 have e0:ae (h++[some X]) i0=some (.cells (itL c0 c1 c2 c3 c5 c6 cp wp c9 c10 c11 c15 q s ff bb t p) y):=by rw [aq lt];exact hi
 have x0:ae (h++[some X]) h.length=some X:=aI _ _
 refine bE (nP (mx:=mx) e0 (o:=16) rfl 1 f).call ?_
 rintro r h1 ⟨n1,rfl,rfl⟩
 have e1:ae ((h++[some X]).set i0 (some (.cells (itL c0 c1 c2 c3 c5 c6 cp wp c9 c10 c11 c15 q n1 ff bb t p) y))) i0=_:=az (by rw [List.length_append];omega) _
 have u1:(itL c0 c1 c2 c3 c5 c6 cp wp c9 c10 c11 c15 q s ff bb t p).set 16 (.int 18446744073709551615 n1)=itL c0 c1 c2 c3 c5 c6 cp wp c9 c10 c11 c15 q n1 ff bb t p:=rfl
 simp only [sy,List.length_append,Nat.reduceAdd,Nat.reduceMul,Nat.reduceSub,Nat.reduceLeDiff,Nat.reduceEqDiff,Nat.reduceLT,reduceIte,rj,u1]
 refine bE (nP (mx:=mx) e1 (o:=18) rfl _ f).call ?_
 rintro r h2 ⟨n2,rfl,rfl⟩
 have u2:(itL c0 c1 c2 c3 c5 c6 cp wp c9 c10 c11 c15 q n1 ff bb t p).set 18 (.int 18446744073709551615 n2)=itL c0 c1 c2 c3 c5 c6 cp wp c9 c10 c11 c15 q n1 ff n2 t p:=rfl
 simp only [sy,List.length_append,Nat.reduceAdd,Nat.reduceMul,Nat.reduceSub,Nat.reduceLeDiff,Nat.reduceEqDiff,Nat.reduceLT,reduceIte,rj,u2,List.set_set]
 have e2:ae ((h++[some X]).set i0 (some (.cells (itL c0 c1 c2 c3 c5 c6 cp wp c9 c10 c11 c15 q n1 ff n2 t p) y))) i0=_:=az (by rw [List.length_append];omega) _
 refine bE (nP (mx:=mx) e2 (o:=19) rfl _ f).call ?_
 rintro r h3 ⟨n3,rfl,rfl⟩
 have u3:(itL c0 c1 c2 c3 c5 c6 cp wp c9 c10 c11 c15 q n1 ff n2 t p).set 19 (.int 18446744073709551615 n3)=itL c0 c1 c2 c3 c5 c6 cp wp c9 c10 c11 c15 q n1 ff n2 n3 p:=rfl
 have e3:ae ((h++[some X]).set i0 (some (.cells (itL c0 c1 c2 c3 c5 c6 cp wp c9 c10 c11 c15 q n1 ff n2 n3 p) y))) i0=_:=az (by rw [List.length_append];omega) _
 have x3:ae ((h++[some X]).set i0 (some (.cells (itL c0 c1 c2 c3 c5 c6 cp wp c9 c10 c11 c15 q n1 ff n2 n3 p) y))) h.length=some X:=by rw [ai (by omega)];exact x0
 have fx: ∀B,Fx i0 h ((h++[some X]).set i0 B):=fun B=>(Fx.app _).trans (Fx.set B)
 subst hX
 by_cases hc:c=0
 ·have g:decide (c≠0)=false:=by rw [decide_eq_false_iff_not];exact fun cc=>cc hc
  simp only [sy,List.length_append,Nat.reduceAdd,Nat.reduceMul,Nat.reduceSub,Nat.reduceLeDiff,Nat.reduceEqDiff,Nat.reduceLT,reduceIte,rj,u3,List.set_set,x3,g]
  exact Ends.mk ⟨⟨_,_,_,_,_,_,_,_,_,_,_,_,_,_,_,_,_,e3⟩,fx _⟩
 ·have g:decide (c≠0)=true:=by rw [decide_eq_true_iff];exact hc
  simp only [sy,List.length_append,Nat.reduceAdd,Nat.reduceMul,Nat.reduceSub,Nat.reduceLeDiff,Nat.reduceEqDiff,Nat.reduceLT,reduceIte,rj,u3,List.set_set,x3,g]
  refine bE (nP (mx:=mx) e3 (o:=17) rfl _ f).call ?_
  rintro r h4 ⟨n4,rfl,rfl⟩
  have u4:(itL c0 c1 c2 c3 c5 c6 cp wp c9 c10 c11 c15 q n1 ff n2 n3 p).set 17 (.int 18446744073709551615 n4)=itL c0 c1 c2 c3 c5 c6 cp wp c9 c10 c11 c15 q n1 n4 n2 n3 p:=rfl
  simp only [sy,List.length_append,Nat.reduceAdd,Nat.reduceMul,Nat.reduceSub,Nat.reduceLeDiff,Nat.reduceEqDiff,Nat.reduceLT,reduceIte,rj,u4,List.set_set]
  exact Ends.mk ⟨⟨_,_,_,_,_,_,_,_,_,_,_,_,_,_,_,_,_,az (by rw [List.length_append];omega) _⟩,fx _⟩
theorem afG {b o y:Nat} {cs:List AV} (hb:ae h b=some (.cells cs y)) (hc:cs[o]? =some (.int 4294967295 1)) (f:Nat):aG (fun r h'=>r= .bool true∧h'=h) ((rl (CL mx) (f+1)).run 106 [.pto b o] h):=by
 refine aG.runs (n:=f) (aoA mx _ _ _ _) ?_
 have e1:pC 4294967295 [.pto b o] h=some (.int 4294967295 1,h):=by
  show fU h b o (fun c _=>mW 4294967295 c fun n=>some (.int 4294967295 n,h))=_
  unfold fU
  simp only [hb]
  rw [bt,hc,aT];rfl
 have e:=(qQ (C:=CL mx) (run:=(rl (CL mx) f).run) (f:=152) (args:=[.pto b o]) (h:=h) (g:=pC 4294967295) (by kernel_rfl)).trans e1
 simp only [sy,List.length_append,Nat.reduceAdd,Nat.reduceMul,Nat.reduceSub,Nat.reduceLeDiff,Nat.reduceEqDiff,Nat.reduceLT,reduceIte,asH,e]
 exact Ends.mk ⟨rfl,rfl⟩
theorem aiE {b o y:Nat} {cs:List AV} (hb:ae h b=some (.cells cs y)) (hc:cs[o]? =some (.int 4294967295 1)) (v:AV) (f:Nat):aG (fun r h'=>r= .tup []∧h'=h) ((rl (CL mx) (f+2)).run 68 [.pto b o,v] h):=by
 refine aG.runs (n:=f+1) (aph mx _ _ _ _ _) ?_
 simp only [sy,List.length_append,Nat.reduceAdd,Nat.reduceMul,Nat.reduceSub,Nat.reduceLeDiff,Nat.reduceEqDiff,Nat.reduceLT,reduceIte,apv]
 refine bE (afG (mx:=mx) hb hc f).call ?_
 rintro r h' ⟨rfl,rfl⟩
 simp only [sy,List.length_append,Nat.reduceAdd,Nat.reduceMul,Nat.reduceSub,Nat.reduceLeDiff,Nat.reduceEqDiff,Nat.reduceLT,reduceIte,apv]
 exact Ends.mk ⟨rfl,rfl⟩
theorem ahM (I:It h i0 cp wp) (f:Nat):aG (fun r h'=>r= .agg [N64 0,N64 0]∧It h' i0 cp wp∧Fx i0 h h') ((rl (CL mx) (f+3)).run 45 [.pto i0 0] h):=by
 refine aG.runs (n:=f+2) (al7 mx _ _ _ _) ?_
 obtain ⟨c0,c1,c2,c3,c5,c6,c9,c10,c11,c15,q,s,ff,bb,t,p,y,hi⟩:=I
 have lt:=aO hi
 obtain ⟨X,hX⟩: ∃X:Blk,X=Blk.cells [.pto i0 0] (71+1):=⟨_,rfl⟩
 obtain ⟨Y,hY⟩: ∃Y:Blk,Y=Blk.cells [.int 9223372036854775807 0,.int 9223372036854775807 0] (27+1):=⟨_,rfl⟩
 have lx:(h++[some X]).length=h.length+1:=by simp
 obtain ⟨H,hH⟩: ∃H,H=h++[some X]++[some Y]:=⟨_,rfl⟩
 have lH:H.length=h.length+2:=by rw [hH];simp
 have x0:ae H h.length=some X:=by rw [hH,aq (by simp),aI]
 have y0:ae H (h.length+1)=some Y:=by
  have:=aI (h++[some X]) (some Y)
  rw [lx] at this
  rw [hH];exact this
 have e0:ae H i0=some (.cells (itL c0 c1 c2 c3 c5 c6 cp wp c9 c10 c11 c15 q s ff bb t p) y):=by rw [hH,aq (by simp;omega),aq lt];exact hi
 have F0:Fx i0 h H:=by rw [hH];exact (Fx.app _).trans (Fx.app _)
 have sx:=hX
 have sy':=hY
 simp only [Nat.reduceAdd] at sx sy'
 simp only [sy,List.length_append,Nat.reduceAdd,Nat.reduceMul,Nat.reduceSub,Nat.reduceLeDiff,Nat.reduceEqDiff,Nat.reduceLT,reduceIte,arK,dP,show (AV.pto i0 0).nb=true from rfl,show (AV.pto i0 0).cells=[.pto i0 0] from rfl,←sx,←sy',←hH,lx,x0]
 simp only [sy,List.length_append,Nat.reduceAdd,Nat.reduceMul,Nat.reduceSub,Nat.reduceLeDiff,Nat.reduceEqDiff,Nat.reduceLT,reduceIte,hX]
 refine bE (agQ (mx:=mx) e0 (o:=14) rfl 1 (f+1)).call ?_
 rintro r h1 ⟨n1,rfl,rfl⟩
 have u1:(itL c0 c1 c2 c3 c5 c6 cp wp c9 c10 c11 c15 q s ff bb t p).set 14 (.int 9223372036854775807 n1)=itL c0 c1 c2 c3 c5 c6 cp wp c9 c10 c11 c15 n1 s ff bb t p:=rfl
 obtain ⟨H1,hH1⟩: ∃H1,H1=H.set i0 (some (.cells (itL c0 c1 c2 c3 c5 c6 cp wp c9 c10 c11 c15 n1 s ff bb t p) y)):=⟨_,rfl⟩
 have e1:ae H1 i0=some (.cells (itL c0 c1 c2 c3 c5 c6 cp wp c9 c10 c11 c15 n1 s ff bb t p) y):=by rw [hH1];exact az (by omega) _
 have x1:ae H1 h.length=some X:=by rw [hH1,ai (by omega)];exact x0
 have y1:ae H1 (h.length+1)=some Y:=by rw [hH1,ai (by omega)];exact y0
 have F1:Fx i0 h H1:=by rw [hH1];exact F0.trans (Fx.set _)
 rw [hX] at x1
 rw [u1,←hH1]
 simp only [sy,List.length_append,Nat.reduceAdd,Nat.reduceMul,Nat.reduceSub,Nat.reduceLeDiff,Nat.reduceEqDiff,Nat.reduceLT,reduceIte,x1]
 refine bE (aiE (mx:=mx) e1 (o:=4) rfl _ f).call ?_
 rintro r h' ⟨rfl,hh⟩
 rw [hh]
 clear hh h'
 rw [hY] at y1
 have l1: ∀κ:Ka,aQ 2 (.pto i0 12) H1 κ=κ (.agg [N64 0,N64 0]) H1:=fun κ=>by rw [kT,e1,aT];rfl
 have hl:h.length+1<H1.length:=by rw [hH1,List.length_set];omega
 have s1: ∀κ:Ka,aK 2 (.pto (h.length+1) 0) (.agg [N64 0,N64 0]) H1 κ=κ (.tup []) (H1.set (h.length+1) (some (.cells [N64 0,N64 0] (27+1)))):=fun κ=>bU y1 rfl rfl rfl κ
 have l2:=az (h:=H1) hl (some (.cells [N64 0,N64 0] (27+1)))
 simp only [Nat.reduceAdd] at s1 l2
 simp only [sy,List.length_append,Nat.reduceAdd,Nat.reduceMul,Nat.reduceSub,Nat.reduceLeDiff,Nat.reduceEqDiff,Nat.reduceLT,reduceIte,x1,l1,s1,aa9,l2]
 refine Ends.mk ⟨rfl,?_,F1.adj (by omega) _⟩
 exact ⟨_,_,_,_,_,_,_,_,_,_,_,_,_,_,_,_,_,by rw [ai (by omega)];exact e1⟩
end
end Go.Proofs.YteapfopaiocpeaaGreatDoor
