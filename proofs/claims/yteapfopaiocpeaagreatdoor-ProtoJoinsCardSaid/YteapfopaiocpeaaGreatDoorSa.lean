/- A reader of package scan: what its small functions do. The functions' code is printed by a program. -/
import Derived.Test.YteapfopaiocpeaaGreatDoorCl
import Derived.Test.YteapfopaiocpeaaGreatDoorSm
namespace Go.Proofs.YteapfopaiocpeaaGreatDoor
set_option linter.unusedSimpArgs false
set_option linter.unusedVariables false
set_option linter.unnecessarySimpa false
set_option linter.defProp false
noncomputable section
def ur (v0 v1 v2 v11:AV):Tm:=(.nd 2 (.nd 1 (.lf 0 v0) (.lf 1 v1)) (.nd 11 (.lf 2 v2) (.lf 11 v11)))
def acT (mx:Int):K:=kAt [] (kOf (CL mx) 114)
section
set_option maxRecDepth 100000
variable (mx:Int) (run:Run) (lp:Lp) (κn:Kt) (κx:Ex→Kt) (h:AH) (v0 v1 v2 v11:AV)
theorem afy:kc (CL mx) run lp (acT mx) ⟨ur v0 v1 v2 v11,h⟩ κn κx=aC v0 h (fun a0 h=>ao 20 a0 h (fun a1 h=>ao 0 a1 h (fun a2 h=>ar a2 h (fun a3 h=>cmp cj a3 (.int 9223372036854775807 0) h (fun a4 h=>bG a4 (gU (placeOf (CL mx) [(0,25),(1,3)]) [.int 9223372036854775807 0,.int 9223372036854775807 0] [(0,v1),(1,v2)] h (fun a5 h=>aC v0 h (fun a6 h=>ao 20 a6 h (fun a7 h=>aK 2 a7 a5 h (fun a8 h=>κn ⟨ur v0 v1 v2 a4,h⟩))))) (κn ⟨ur v0 v1 v2 a4,h⟩)))))):=by kernel_rfl
theorem amB:kcE (CL mx) [] ⟨ur v0 v1 v2 v11,h⟩=some (.vh (.tup []) h):=(bJ _ _ _).trans (by kernel_rfl)
theorem ans:dp (CL mx) 114=some ⟨acT mx,[0,1,2,11],18,[]⟩:=by kernel_rfl
end
theorem ajh (mx:Int) (run:Run) (lp:Lp) (x0 x1 x2:AV) (h:AH):cW (CL mx) run lp 114 [x0,x1,x2] h=vhO (kc (CL mx) run lp (acT mx) ⟨ur x0 x1 x2 .bot,h⟩ (kcE (CL mx) []) (kcQ (CL mx) [])):=(bK (by kernel_rfl) (ans mx) (by kernel_rfl)).trans (by kernel_rfl)
def acE:=And.intro @afy (@amB)
def ad7 (v0 v2:AV):Tm:=(.nd 2 (.lf 0 v0) (.lf 2 v2))
def ami (mx:Int):K:=kAt [] (kOf (CL mx) 112)
section
set_option maxRecDepth 100000
variable (mx:Int) (run:Run) (lp:Lp) (κn:Kt) (κx:Ex→Kt) (h:AH) (v0 v2:AV)
theorem akQ:kc (CL mx) run lp (ami mx) ⟨ad7 v0 v2,h⟩ κn κx=aC v0 h (fun a0 h=>ao 20 a0 h (fun a1 h=>ao 0 a1 h (fun a2 h=>ar a2 h (fun a3 h=>cmp cj a3 (.int 9223372036854775807 0) h (fun a4 h=>κx .ret ⟨ad7 v0 a4,h⟩))))):=by kernel_rfl
theorem apa:kcE (CL mx) [.tmp 2] ⟨ad7 v0 v2,h⟩=some (.vh v2 h):=(bJ _ _ _).trans (by kernel_rfl)
theorem arA:dp (CL mx) 112=some ⟨ami mx,[0,2],9,[.tmp 2]⟩:=by kernel_rfl
end
theorem aox (mx:Int) (run:Run) (lp:Lp) (x0:AV) (h:AH):cW (CL mx) run lp 112 [x0] h=vhO (kc (CL mx) run lp (ami mx) ⟨ad7 x0 .bot,h⟩ (kcE (CL mx) [.tmp 2]) (kcQ (CL mx) [.tmp 2])):=(bK (by kernel_rfl) (arA mx) (by kernel_rfl)).trans (by kernel_rfl)
def asD:=And.intro @akQ (@apa)
def kR (v0 v2 v8:AV):Tm:=(.nd 2 (.lf 0 v0) (.nd 8 (.lf 2 v2) (.lf 8 v8)))
def acH (mx:Int):K:=kAt [] (kOf (CL mx) 178)
def aj1 (mx:Int):K:=kAt [1,1,0] (kOf (CL mx) 178)
def amy (mx:Int):K:=kAt [1,1,1] (kOf (CL mx) 178)
section
set_option maxRecDepth 100000
variable (mx:Int) (run:Run) (lp:Lp) (κn:Kt) (κx:Ex→Kt) (h:AH) (v0 v2 v8:AV)
theorem ag6:kc (CL mx) run lp (acH mx) ⟨kR v0 v2 v8,h⟩ κn κx=aC v0 h (fun a0 h=>ao 17 a0 h (fun a1 h=>ar a1 h (fun a2 h=>bH a2 h (fun a3 h=>cmp cj a3 (.int 9223372036854775807 0) h (fun a4 h=>bG a4 (κx .ret ⟨kR v0 (.int 9223372036854775807 4611686018427387904) a4,h⟩) (kc (CL mx) run lp (aj1 mx) ⟨kR v0 (.int 9223372036854775807 0) a4,h⟩ (fun s=>kc (CL mx) run lp (amy mx) s κn κx) κx)))))):=by kernel_rfl
theorem ahG:kc (CL mx) run lp (aj1 mx) ⟨kR v0 v2 v8,h⟩ κn κx=aC v0 h (fun a0 h=>ao 17 a0 h (fun a1 h=>ar a1 h (fun a2 h=>aC v0 h (fun a3 h=>ao 17 a3 h (fun a4 h=>ar a4 h (fun a5 h=>bH a5 h (fun a6 h=>arith iT a6 (.int 9223372036854775807 1) h (fun a7 h=>bT 1 a2 a7 h (fun a8 h=>ar a8 h (fun a9 h=>κn ⟨kR v0 a9 v8,h⟩)))))))))):=(cE (C:=CL mx) (ops:=opsOf (cAt [1,1,0] (aH (CL mx) 178))) (ps:=[0,2,8]) (by kernel_rfl) (by kernel_rfl) _ _ _).trans (by kernel_rfl)
theorem ahn:kc (CL mx) run lp (amy mx) ⟨kR v0 v2 v8,h⟩ κn κx=κx .ret ⟨kR v0 v2 v8,h⟩:=by kernel_rfl
theorem amF:kcE (CL mx) [.tmp 2] ⟨kR v0 v2 v8,h⟩=some (.vh v2 h):=(bJ _ _ _).trans (by kernel_rfl)
theorem aoo:dp (CL mx) 178=some ⟨acH mx,[0,2,8],21,[.tmp 2]⟩:=by kernel_rfl
end
theorem amN (mx:Int) (run:Run) (lp:Lp) (x0:AV) (h:AH):cW (CL mx) run lp 178 [x0] h=vhO (kc (CL mx) run lp (acH mx) ⟨kR x0 .bot .bot,h⟩ (kcE (CL mx) [.tmp 2]) (kcQ (CL mx) [.tmp 2])):=(bK (by kernel_rfl) (aoo mx) (by kernel_rfl)).trans (by kernel_rfl)
def arL:=And.intro @ag6 (And.intro @ahG (And.intro @ahn (@amF)))
def cM (v0 v1 v3 v4 v22:AV):Tm:=(.nd 3 (.nd 1 (.lf 0 v0) (.lf 1 v1)) (.nd 4 (.lf 3 v3) (.nd 22 (.lf 4 v4) (.lf 22 v22))))
def aci (mx:Int):K:=kAt [] (kOf (CL mx) 170)
def akr (mx:Int):K:=kAt [1,0] (kOf (CL mx) 170)
def acP (mx:Int):K:=kAt [1,1] (kOf (CL mx) 170)
def amr (mx:Int):K:=kAt [1,0,0,0] (kOf (CL mx) 170)
def ak7 (mx:Int):K:=kAt [1,0,0,1] (kOf (CL mx) 170)
def abH (mx:Int):K:=kAt [1,1,1] (kOf (CL mx) 170)
def alV (mx:Int):K:=kAt [1,0,0,1,1,0] (kOf (CL mx) 170)
def ait (mx:Int):K:=kAt [1,0,0,1,1,1] (kOf (CL mx) 170)
section
set_option maxRecDepth 100000
variable (mx:Int) (run:Run) (lp:Lp) (κn:Kt) (κx:Ex→Kt) (h:AH) (v0 v1 v3 v4 v22:AV)
theorem agv:kc (CL mx) run lp (aci mx) ⟨cM v0 v1 v3 v4 v22,h⟩ κn κx=gZ 70 v1 h (fun a0 h=>kc (CL mx) run lp (akr mx) ⟨cM v0 v1 a0 v4 v22,h⟩ (fun s=>kc (CL mx) run lp (acP mx) s κn κx) κx):=by kernel_rfl
theorem rz:kc (CL mx) run lp (akr mx) ⟨cM v0 v1 v3 v4 v22,h⟩ κn κx=kc (CL mx) run lp (amr mx) ⟨cM v0 v1 v3 v4 v22,h⟩ (fun s=>kc (CL mx) run lp (ak7 mx) s κn (kcO 0 κn κx)) (kcO 0 κn κx):=by kernel_rfl
theorem afP:kc (CL mx) run lp (acP mx) ⟨cM v0 v1 v3 v4 v22,h⟩ κn κx=aC v0 h (fun a0 h=>ao 12 a0 h (fun a1 h=>ar a1 h (fun a2 h=>arith fu a2 (.int 9223372036854775807 1) h (fun a3 h=>aC v0 h (fun a4 h=>ao 12 a4 h (fun a5 h=>cB a5 a3 h (fun a6 h=>kc (CL mx) run lp (abH mx) ⟨cM v0 v1 v3 v4 v22,h⟩ κn κx))))))):=by kernel_rfl
theorem rF:kc (CL mx) run lp (amr mx) ⟨cM v0 v1 v3 v4 v22,h⟩ κn κx=aC v0 h (fun a0 h=>ao 16 a0 h (fun a1 h=>ar a1 h (fun a2 h=>bH a2 h (fun a3 h=>aC v0 h (fun a4 h=>ao 7 a4 h (fun a5 h=>ao 1 a5 h (fun a6 h=>ar a6 h (fun a7 h=>cmp igt a3 a7 h (fun a8 h=>κn ⟨cM v0 v1 v3 a8 v22,h⟩))))))))):=(cE (C:=CL mx) (ops:=opsOf (cAt [1,0,0,0] (aH (CL mx) 170))) (ps:=[0,1,3,4,22]) (by kernel_rfl) (by kernel_rfl) _ _ _).trans (by kernel_rfl)
theorem qM:kc (CL mx) run lp (ak7 mx) ⟨cM v0 v1 v3 v4 v22,h⟩ κn κx=bG v4 (aC v0 h (fun a0 h=>ao 10 a0 h (fun a1 h=>ar a1 h (fun a2 h=>aL (fun a3 h=>κn ⟨cM v0 v1 v3 v4 v22,h⟩) (aD (CL mx) run 114 [v0,(.int 9223372036854775807 218),a2] h))))) (kc (CL mx) run lp (alV mx) ⟨cM v0 v1 v3 v4 v22,h⟩ (fun s=>kc (CL mx) run lp (ait mx) s κn κx) κx):=by kernel_rfl
theorem ahb:kc (CL mx) run lp (abH mx) ⟨cM v0 v1 v3 v4 v22,h⟩ κn κx=kc2 (fun κ=>aC v0 h (fun a0 h=>ao 16 a0 h (fun a1 h=>ar a1 h (fun a2 h=>aQ 4 v3 h (fun a3 h=>bH a2 h (fun a4 h=>fD 4 1 [.int 18446744073709551615 0,.bool false,.nils,.nils] [(0,(.agg [.int 18446744073709551615 0,.bool false,.nils,.nils]))] h (fun a5 h=>eH 70 4 64 a2 a5 h (fun a6 h1=>bq (Nat.ble (aj h) (aj h1)) ((fun h=>bT 4 a6 a4 h (fun a7 h=>aK 4 a7 a3 h (fun a8 h1=>bq (Nat.ble (aj h) (aj h1)) ((fun h=>aC v0 h (fun a9 h1=>bq (AV.lt (aj h) a9) ((fun h=>ao 16 a9 h (fun a10 h1=>bq (AV.lt (aj h) a10) ((fun h=>cB a10 a6 h (fun a11 h1=>bq (Nat.ble (aj h) (aj h1)) ((fun h=>κ ⟨cM v0 v1 v3 v4 v22,h⟩) h1) none)) h1) none)) h1) none)) h1) none))) h1) none)))))))) (fun κ=>aC v0 h (fun a0 h=>ao 16 a0 h (fun a1 h=>ar a1 h (fun a2 h=>aQ 4 v3 h (fun a3 h=>bH a2 h (fun a4 h=>fD 4 1 [.int 18446744073709551615 0,.bool false,.nils,.nils] [(0,(.agg [.int 18446744073709551615 0,.bool false,.nils,.nils]))] h (fun a5 h=>eH 70 4 64 a2 a5 h (fun a6 h1=>bq (Nat.ble (aj h) (aj h1)) ((fun h=>bT 4 a6 a4 h (fun a7 h1=>bq (AV.lt (aj h) a7) ((fun h=>aC v0 h (fun a8 h=>ao 16 a8 h (fun a9 h=>cB a9 a6 h (fun a10 h1=>bq (Nat.ble (aj h) (aj h1)) ((fun h=>aK 4 a7 a3 h (fun a11 h1=>bq (Nat.ble (aj h) (aj h1)) ((fun h=>κ ⟨cM v0 v1 v3 v4 v22,h⟩) h1) none)) h1) none)))) h1) none)) h1) none)))))))) κn:=(xd (C:=CL mx) (ops1:=dH (opsOf (cAt [1,1,1] (aH (CL mx) 170))) 9 12) (ops2:=dI (opsOf (cAt [1,1,1] (aH (CL mx) 170))) 9 12) (ps:=[0,1,3,4,22]) (by kernel_rfl) (by kernel_rfl) (by kernel_rfl) _ _ _).trans (by kernel_rfl)
theorem wY:kc (CL mx) run lp (alV mx) ⟨cM v0 v1 v3 v4 v22,h⟩ κn κx=aC v0 h (fun a0 h=>ao 12 a0 h (fun a1 h=>ar a1 h (fun a2 h=>aC v0 h (fun a3 h=>ao 7 a3 h (fun a4 h=>ao 2 a4 h (fun a5 h=>ar a5 h (fun a6 h=>cmp ige a2 a6 h (fun a7 h=>κn ⟨cM v0 v1 v3 v4 a7,h⟩)))))))):=(cE (C:=CL mx) (ops:=opsOf (cAt [1,0,0,1,1,0] (aH (CL mx) 170))) (ps:=[0,1,3,4,22]) (by kernel_rfl) (by kernel_rfl) _ _ _).trans (by kernel_rfl)
theorem vZ:kc (CL mx) run lp (ait mx) ⟨cM v0 v1 v3 v4 v22,h⟩ κn κx=bG v22 (aC v0 h (fun a0 h=>ao 10 a0 h (fun a1 h=>ar a1 h (fun a2 h=>aL (fun a3 h=>κn ⟨cM v0 v1 v3 v4 v22,h⟩) (aD (CL mx) run 114 [v0,(.int 9223372036854775807 219),a2] h))))) (κn ⟨cM v0 v1 v3 v4 v22,h⟩):=by kernel_rfl
theorem vm:kcE (CL mx) [] ⟨cM v0 v1 v3 v4 v22,h⟩=some (.vh (.tup []) h):=(bJ _ _ _).trans (by kernel_rfl)
theorem apj:dp (CL mx) 170=some ⟨aci mx,[0,1,3,4,22],57,[]⟩:=by kernel_rfl
end
theorem aml (mx:Int) (run:Run) (lp:Lp) (x0 x1:AV) (h:AH):cW (CL mx) run lp 170 [x0,x1] h=vhO (kc (CL mx) run lp (aci mx) ⟨cM x0 x1 .bot .bot .bot,h⟩ (kcE (CL mx) []) (kcQ (CL mx) [])):=(bK (by kernel_rfl) (apj mx) (by kernel_rfl)).trans (by kernel_rfl)
def lq (v0 v2 v3:AV):Tm:=(.nd 2 (.lf 0 v0) (.nd 3 (.lf 2 v2) (.lf 3 v3)))
def adp (mx:Int):K:=kAt [] (kOf (CL mx) 171)
def ako (mx:Int):K:=kAt [1,1,0] (kOf (CL mx) 171)
def ak3 (mx:Int):K:=kAt [1,1,1] (kOf (CL mx) 171)
section
set_option maxRecDepth 100000
variable (mx:Int) (run:Run) (lp:Lp) (κn:Kt) (κx:Ex→Kt) (h:AH) (v0 v2 v3:AV)
theorem agh:kc (CL mx) run lp (adp mx) ⟨lq v0 v2 v3,h⟩ κn κx=aC v0 h (fun a0 h=>ao 16 a0 h (fun a1 h=>ar a1 h (fun a2 h=>bH a2 h (fun a3 h=>arith iT a3 (.int 9223372036854775807 1) h (fun a4 h=>aC v0 h (fun a5 h=>ao 16 a5 h (fun a6 h=>ar a6 h (fun a7 h=>arith iT a4 (.int 9223372036854775807 1) h (fun a8 h=>bT 4 a7 a8 h (fun a9 h=>kc (CL mx) run lp (ako mx) ⟨lq v0 a4 a9,h⟩ (fun s=>kc (CL mx) run lp (ak3 mx) s κn κx) κx)))))))))):=by kernel_rfl
theorem afU:kc (CL mx) run lp (ako mx) ⟨lq v0 v2 v3,h⟩ κn κx=kc2 (fun κ=>aC v3 h (fun a0 h=>ao 3 a0 h (fun a1 h=>ar a1 h (fun a2 h=>aC v0 h (fun a3 h=>ao 16 a3 h (fun a4 h=>ar a4 h (fun a5 h=>bT 4 a5 v2 h (fun a6 h=>aQ 4 a6 h (fun a7 h=>bH a2 h (fun a8 h=>fD 4 1 [.int 18446744073709551615 0,.bool false,.nils,.nils] [(0,(.agg [.int 18446744073709551615 0,.bool false,.nils,.nils]))] h (fun a9 h=>eH 70 4 64 a2 a9 h (fun a10 h1=>bq (Nat.ble (aj h) (aj h1)) ((fun h=>bT 4 a10 a8 h (fun a11 h=>aK 4 a11 a7 h (fun a12 h1=>bq (Nat.ble (aj h) (aj h1)) ((fun h=>aC v3 h (fun a13 h1=>bq (AV.lt (aj h) a13) ((fun h=>ao 3 a13 h (fun a14 h1=>bq (AV.lt (aj h) a14) ((fun h=>cB a14 a10 h (fun a15 h1=>bq (Nat.ble (aj h) (aj h1)) ((fun h=>κ ⟨lq v0 v2 v3,h⟩) h1) none)) h1) none)) h1) none)) h1) none))) h1) none)))))))))))) (fun κ=>aC v3 h (fun a0 h=>ao 3 a0 h (fun a1 h=>ar a1 h (fun a2 h=>aC v0 h (fun a3 h=>ao 16 a3 h (fun a4 h=>ar a4 h (fun a5 h=>bT 4 a5 v2 h (fun a6 h=>aQ 4 a6 h (fun a7 h=>bH a2 h (fun a8 h=>fD 4 1 [.int 18446744073709551615 0,.bool false,.nils,.nils] [(0,(.agg [.int 18446744073709551615 0,.bool false,.nils,.nils]))] h (fun a9 h=>eH 70 4 64 a2 a9 h (fun a10 h1=>bq (Nat.ble (aj h) (aj h1)) ((fun h=>bT 4 a10 a8 h (fun a11 h1=>bq (AV.lt (aj h) a11) ((fun h=>aC v3 h (fun a12 h=>ao 3 a12 h (fun a13 h=>cB a13 a10 h (fun a14 h1=>bq (Nat.ble (aj h) (aj h1)) ((fun h=>aK 4 a11 a7 h (fun a15 h1=>bq (Nat.ble (aj h) (aj h1)) ((fun h=>κ ⟨lq v0 v2 v3,h⟩) h1) none)) h1) none)))) h1) none)) h1) none)))))))))))) κn:=(xd (C:=CL mx) (ops1:=dH (opsOf (cAt [1,1,0] (aH (CL mx) 171))) 15 18) (ops2:=dI (opsOf (cAt [1,1,0] (aH (CL mx) 171))) 15 18) (ps:=[0,2,3]) (by kernel_rfl) (by kernel_rfl) (by kernel_rfl) _ _ _).trans (by kernel_rfl)
theorem ahs:kc (CL mx) run lp (ak3 mx) ⟨lq v0 v2 v3,h⟩ κn κx=aC v0 h (fun a0 h=>ao 16 a0 h (fun a1 h=>ar a1 h (fun a2 h=>slS 4 a2 none (some v2) none h (fun a3 h=>aC v0 h (fun a4 h=>ao 16 a4 h (fun a5 h=>cB a5 a3 h (fun a6 h=>κn ⟨lq v0 v2 v3,h⟩))))))):=by kernel_rfl
theorem aj2:kcE (CL mx) [] ⟨lq v0 v2 v3,h⟩=some (.vh (.tup []) h):=(bJ _ _ _).trans (by kernel_rfl)
theorem an4:dp (CL mx) 171=some ⟨adp mx,[0,2,3],43,[]⟩:=by kernel_rfl
end
theorem aiv (mx:Int) (run:Run) (lp:Lp) (x0:AV) (h:AH):cW (CL mx) run lp 171 [x0] h=vhO (kc (CL mx) run lp (adp mx) ⟨lq x0 .bot .bot,h⟩ (kcE (CL mx) []) (kcQ (CL mx) [])):=(bK (by kernel_rfl) (an4 mx) (by kernel_rfl)).trans (by kernel_rfl)
def mF (v0 v1 v3:AV):Tm:=(.nd 1 (.lf 0 v0) (.nd 3 (.lf 1 v1) (.lf 3 v3)))
def acj (mx:Int):K:=kAt [] (kOf (CL mx) 175)
def ak4 (mx:Int):K:=kAt [1,0] (kOf (CL mx) 175)
def ahU (mx:Int):K:=kAt [1,1] (kOf (CL mx) 175)
section
set_option maxRecDepth 100000
variable (mx:Int) (run:Run) (lp:Lp) (κn:Kt) (κx:Ex→Kt) (h:AH) (v0 v1 v3:AV)
theorem agU:kc (CL mx) run lp (acj mx) ⟨mF v0 v1 v3,h⟩ κn κx=gZ 70 v1 h (fun a0 h=>kc (CL mx) run lp (ak4 mx) ⟨mF v0 v1 a0,h⟩ (fun s=>kc (CL mx) run lp (ahU mx) s κn κx) κx):=by kernel_rfl
theorem agN:kc (CL mx) run lp (ak4 mx) ⟨mF v0 v1 v3,h⟩ κn κx=aC v0 h (fun a0 h=>ao 16 a0 h (fun a1 h=>ar a1 h (fun a2 h=>aC v0 h (fun a3 h=>ao 16 a3 h (fun a4 h=>ar a4 h (fun a5 h=>bH a5 h (fun a6 h=>arith iT a6 (.int 9223372036854775807 1) h (fun a7 h=>aQ 4 v3 h (fun a8 h=>bT 4 a2 a7 h (fun a9 h=>aK 4 a9 a8 h (fun a10 h1=>bq (Nat.ble (aj h) (aj h1)) ((fun h=>κn ⟨mF v0 v1 v3,h⟩) h1) none))))))))))):=(cE (C:=CL mx) (ops:=opsOf (cAt [1,0] (aH (CL mx) 175))) (ps:=[0,1,3]) (by kernel_rfl) (by kernel_rfl) _ _ _).trans (by kernel_rfl)
theorem agD:kc (CL mx) run lp (ahU mx) ⟨mF v0 v1 v3,h⟩ κn κx=aL (fun a0 h=>κn ⟨mF v0 v1 v3,h⟩) (aD (CL mx) run 171 [v0] h):=by kernel_rfl
theorem alz:kcE (CL mx) [] ⟨mF v0 v1 v3,h⟩=some (.vh (.tup []) h):=(bJ _ _ _).trans (by kernel_rfl)
theorem api:dp (CL mx) 175=some ⟨acj mx,[0,1,3],18,[]⟩:=by kernel_rfl
end
theorem akD (mx:Int) (run:Run) (lp:Lp) (x0 x1:AV) (h:AH):cW (CL mx) run lp 175 [x0,x1] h=vhO (kc (CL mx) run lp (acj mx) ⟨mF x0 x1 .bot,h⟩ (kcE (CL mx) []) (kcQ (CL mx) [])):=(bK (by kernel_rfl) (api mx) (by kernel_rfl)).trans (by kernel_rfl)
def bV (v0 v1 v2 v6 v7 v8 v15 v47 v58:AV):Tm:=(.nd 7 (.nd 2 (.nd 1 (.lf 0 v0) (.lf 1 v1)) (.nd 6 (.lf 2 v2) (.lf 6 v6))) (.nd 15 (.nd 8 (.lf 7 v7) (.lf 8 v8)) (.nd 47 (.lf 15 v15) (.nd 58 (.lf 47 v47) (.lf 58 v58)))))
def abF (mx:Int):K:=kAt [] (kOf (CL mx) 176)
def akV (mx:Int):K:=kAt [1,1,0] (kOf (CL mx) 176)
def akb (mx:Int):K:=kAt [1,1,1] (kOf (CL mx) 176)
def alG (mx:Int):K:=kAt [1,1,0,0] (kOf (CL mx) 176)
def ajH (mx:Int):K:=kAt [1,1,0,1] (kOf (CL mx) 176)
def ajx (mx:Int):K:=kAt [1,1,1,0] (kOf (CL mx) 176)
def ak0 (mx:Int):K:=kAt [1,1,1,1] (kOf (CL mx) 176)
def aiW (mx:Int):K:=kAt [1,1,0,1,0] (kOf (CL mx) 176)
def akx (mx:Int):K:=kAt [1,1,0,1,1] (kOf (CL mx) 176)
def amQ (mx:Int):K:=kAt [1,1,0,1,1,0,0] (kOf (CL mx) 176)
def adG (mx:Int):K:=kAt [1,1,0,1,1,0,1] (kOf (CL mx) 176)
def aes (mx:Int):K:=kAt [1,1,0,1,1,0,0,0] (kOf (CL mx) 176)
def adB (mx:Int):K:=kAt [1,1,0,1,1,0,0,1] (kOf (CL mx) 176)
section
set_option maxRecDepth 100000
variable (mx:Int) (run:Run) (lp:Lp) (κn:Kt) (κx:Ex→Kt) (h:AH) (v0 v1 v2 v6 v7 v8 v15 v47 v58:AV)
theorem ahL:kc (CL mx) run lp (abF mx) ⟨bV v0 v1 v2 v6 v7 v8 v15 v47 v58,h⟩ κn κx=aL (fun a0 h=>arith iT a0 v2 h (fun a1 h=>cvI 18446744073709551615 a1 h (fun a2 h=>cmp igt v1 a2 h (fun a3 h=>bG a3 (aL (fun a4 h=>κx .ret ⟨bV v0 v1 v2 (.nils) v7 v8 a3 v47 v58,h⟩) (aD (CL mx) run 114 [v0,(.int 9223372036854775807 214),v2] h)) (kc (CL mx) run lp (akV mx) ⟨bV v0 v1 v2 (.nils) v7 v8 a3 v47 v58,h⟩ (fun s=>kc (CL mx) run lp (akb mx) s κn κx) κx))))) (aD (CL mx) run 178 [v0] h):=by kernel_rfl
theorem rC:kc (CL mx) run lp (akV mx) ⟨bV v0 v1 v2 v6 v7 v8 v15 v47 v58,h⟩ κn κx=kc (CL mx) run lp (alG mx) ⟨bV v0 v1 v2 v6 v7 v8 v15 v47 v58,h⟩ (fun s=>kc (CL mx) run lp (ajH mx) s κn κx) κx:=by kernel_rfl
theorem rA:kc (CL mx) run lp (akb mx) ⟨bV v0 v1 v2 v6 v7 v8 v15 v47 v58,h⟩ κn κx=kc (CL mx) run lp (ajx mx) ⟨bV v0 v1 v2 v6 v7 v8 v15 v47 v58,h⟩ (fun s=>kc (CL mx) run lp (ak0 mx) s κn κx) κx:=by kernel_rfl
theorem rD:kc (CL mx) run lp (alG mx) ⟨bV v0 v1 v2 v6 v7 v8 v15 v47 v58,h⟩ κn κx=aC v0 h (fun a0 h=>ao 6 a0 h (fun a1 h=>ar a1 h (fun a2 h=>bH a2 h (fun a3 h=>aC v0 h (fun a4 h=>ao 10 a4 h (fun a5 h=>ar a5 h (fun a6 h=>arith iT a3 a6 h (fun a7 h=>κn ⟨bV v0 v1 v2 v6 a7 v8 v15 v47 v58,h⟩)))))))):=(cE (C:=CL mx) (ops:=opsOf (cAt [1,1,0,0] (aH (CL mx) 176))) (ps:=[0,1,2,6,7,8,15,47,58]) (by kernel_rfl) (by kernel_rfl) _ _ _).trans (by kernel_rfl)
theorem qV:kc (CL mx) run lp (ajH mx) ⟨bV v0 v1 v2 v6 v7 v8 v15 v47 v58,h⟩ κn κx=kc (CL mx) run lp (aiW mx) ⟨bV v0 v1 v2 v6 v7 v8 v15 v47 v58,h⟩ (fun s=>kc (CL mx) run lp (akx mx) s κn κx) κx:=by kernel_rfl
theorem xz:kc (CL mx) run lp (ajx mx) ⟨bV v0 v1 v2 v6 v7 v8 v15 v47 v58,h⟩ κn κx=aC v0 h (fun a0 h=>ao 6 a0 h (fun a1 h=>ar a1 h (fun a2 h=>aC v0 h (fun a3 h=>ao 10 a3 h (fun a4 h=>ar a4 h (fun a5 h=>aC v0 h (fun a6 h=>ao 10 a6 h (fun a7 h=>ar a7 h (fun a8 h=>cvI 9223372036854775807 v1 h (fun a9 h=>arith fu a8 a9 h (fun a10 h=>slS 1 a2 (some a5) (some a10) none h (fun a11 h=>eH 6 1 1 (.nils) a11 h (fun a12 h1=>bq (Nat.ble (aj h) (aj h1)) ((fun h=>κn ⟨bV v0 v1 v2 v6 v7 a12 v15 v47 v58,h⟩) h1) none))))))))))))):=(cE (C:=CL mx) (ops:=opsOf (cAt [1,1,1,0] (aH (CL mx) 176))) (ps:=[0,1,2,6,7,8,15,47,58]) (by kernel_rfl) (by kernel_rfl) _ _ _).trans (by kernel_rfl)
theorem xC:kc (CL mx) run lp (ak0 mx) ⟨bV v0 v1 v2 v6 v7 v8 v15 v47 v58,h⟩ κn κx=aC v0 h (fun a0 h=>ao 10 a0 h (fun a1 h=>ar a1 h (fun a2 h=>cvI 9223372036854775807 v1 h (fun a3 h=>arith fu a2 a3 h (fun a4 h=>aC v0 h (fun a5 h=>ao 10 a5 h (fun a6 h=>cB a6 a4 h (fun a7 h=>κx .ret ⟨bV v0 v1 v2 v8 v7 v8 v15 v47 v58,h⟩)))))))):=by kernel_rfl
theorem qO:kc (CL mx) run lp (aiW mx) ⟨bV v0 v1 v2 v6 v7 v8 v15 v47 v58,h⟩ κn κx=cvI 18446744073709551615 v7 h (fun a0 h=>cmp igt v1 a0 h (fun a1 h=>av a1 false (fun κ=>aY v1 h κ) h (fun a2 h=>av a1 false (fun κ=>aY v0 h κ) h (fun a3 h=>av a1 false (fun κ=>aC a3 h κ) h (fun a4 h=>av a1 false (fun κ=>ao 7 a4 h κ) h (fun a5 h=>av a1 false (fun κ=>ao 0 a5 h κ) h (fun a6 h=>av a1 false (fun κ=>ar a6 h κ) h (fun a7 h=>av a1 false (fun κ=>aY v0 h κ) h (fun a8 h=>av a1 false (fun κ=>aC a8 h κ) h (fun a9 h=>av a1 false (fun κ=>ao 10 a9 h κ) h (fun a10 h=>av a1 false (fun κ=>ar a10 h κ) h (fun a11 h=>av a1 false (fun κ=>arith iT a7 a11 h κ) h (fun a12 h=>av a1 false (fun κ=>cvI 18446744073709551615 a12 h κ) h (fun a13 h=>av a1 false (fun κ=>cmp igt a2 a13 h κ) h (fun a14 h=>fm a1 (.bool true) a14 h (fun a15 h=>κn ⟨bV v0 v1 v2 v6 v7 v8 v15 a15 v58,h⟩)))))))))))))))):=(cE (C:=CL mx) (ops:=opsOf (cAt [1,1,0,1,0] (aH (CL mx) 176))) (ps:=[0,1,2,6,7,8,15,47,58]) (by kernel_rfl) (by kernel_rfl) _ _ _).trans (by kernel_rfl)
theorem qL:kc (CL mx) run lp (akx mx) ⟨bV v0 v1 v2 v6 v7 v8 v15 v47 v58,h⟩ κn κx=bG v47 (kc (CL mx) run lp (amQ mx) ⟨bV v0 v1 v2 v6 v7 v8 v15 v47 v58,h⟩ (fun s=>kc (CL mx) run lp (adG mx) s κn κx) κx) (κn ⟨bV v0 v1 v2 v6 v7 v8 v15 v47 v58,h⟩):=by kernel_rfl
theorem agi:kc (CL mx) run lp (amQ mx) ⟨bV v0 v1 v2 v6 v7 v8 v15 v47 v58,h⟩ κn κx=kc (CL mx) run lp (aes mx) ⟨bV v0 v1 v2 v6 v7 v8 v15 v47 v58,h⟩ (fun s=>kc (CL mx) run lp (adB mx) s κn κx) κx:=by kernel_rfl
theorem ab8:kc (CL mx) run lp (adG mx) ⟨bV v0 v1 v2 v6 v7 v8 v15 v47 v58,h⟩ κn κx=aC v0 h (fun a0 h=>ao 6 a0 h (fun a1 h=>ar a1 h (fun a2 h=>bH a2 h (fun a3 h=>aL (fun a4 h=>κx .ret ⟨bV v0 v1 v2 (.nils) v7 v8 v15 v47 v58,h⟩) (aD (CL mx) run 114 [v0,(.int 9223372036854775807 10),a3] h))))):=by kernel_rfl
theorem acG:kc (CL mx) run lp (aes mx) ⟨bV v0 v1 v2 v6 v7 v8 v15 v47 v58,h⟩ κn κx=aC v0 h (fun a0 h=>ao 7 a0 h (fun a1 h=>ao 0 a1 h (fun a2 h=>ar a2 h (fun a3 h=>aC v0 h (fun a4 h=>ao 6 a4 h (fun a5 h=>ar a5 h (fun a6 h=>bH a6 h (fun a7 h=>cmp ilt a3 a7 h (fun a8 h=>κn ⟨bV v0 v1 v2 v6 v7 v8 v15 v47 a8,h⟩))))))))):=(cE (C:=CL mx) (ops:=opsOf (cAt [1,1,0,1,1,0,0,0] (aH (CL mx) 176))) (ps:=[0,1,2,6,7,8,15,47,58]) (by kernel_rfl) (by kernel_rfl) _ _ _).trans (by kernel_rfl)
theorem abm:kc (CL mx) run lp (adB mx) ⟨bV v0 v1 v2 v6 v7 v8 v15 v47 v58,h⟩ κn κx=bG v58 (aC v0 h (fun a0 h=>ao 7 a0 h (fun a1 h=>ao 0 a1 h (fun a2 h=>ar a2 h (fun a3 h=>aL (fun a4 h=>κn ⟨bV v0 v1 v2 v6 v7 v8 v15 v47 v58,h⟩) (aD (CL mx) run 114 [v0,(.int 9223372036854775807 217),a3] h)))))) (κn ⟨bV v0 v1 v2 v6 v7 v8 v15 v47 v58,h⟩):=by kernel_rfl
theorem pM:kcE (CL mx) [.tmp 6] ⟨bV v0 v1 v2 v6 v7 v8 v15 v47 v58,h⟩=some (.vh v6 h):=(bJ _ _ _).trans (by kernel_rfl)
theorem an7:dp (CL mx) 176=some ⟨abF mx,[0,1,2,6,7,8,15,47,58],100,[.tmp 6]⟩:=by kernel_rfl
end
theorem ajV (mx:Int) (run:Run) (lp:Lp) (x0 x1 x2:AV) (h:AH):cW (CL mx) run lp 176 [x0,x1,x2] h=vhO (kc (CL mx) run lp (abF mx) ⟨bV x0 x1 x2 .bot .bot .bot .bot .bot .bot,h⟩ (kcE (CL mx) [.tmp 6]) (kcQ (CL mx) [.tmp 6])):=(bK (by kernel_rfl) (an7 mx) (by kernel_rfl)).trans (by kernel_rfl)
def dR (v0 v1 v4 v5 v12 v24:AV):Tm:=(.nd 5 (.nd 1 (.lf 0 v0) (.nd 4 (.lf 1 v1) (.lf 4 v4))) (.nd 12 (.lf 5 v5) (.nd 24 (.lf 12 v12) (.lf 24 v24))))
def acu (mx:Int):K:=kAt [] (kOf (CL mx) 224)
def ajU (mx:Int):K:=kAt [1,0] (kOf (CL mx) 224)
def ajy (mx:Int):K:=kAt [1,1] (kOf (CL mx) 224)
def amR (mx:Int):K:=kAt [1,0,0] (kOf (CL mx) 224)
def ald (mx:Int):K:=kAt [1,0,1] (kOf (CL mx) 224)
section
set_option maxRecDepth 100000
variable (mx:Int) (run:Run) (lp:Lp) (κn:Kt) (κx:Ex→Kt) (h:AH) (v0 v1 v4 v5 v12 v24:AV)
theorem agF:kc (CL mx) run lp (acu mx) ⟨dR v0 v1 v4 v5 v12 v24,h⟩ κn κx=kc (CL mx) run lp (ajU mx) ⟨dR v0 v1 (.int 255 0) v5 v12 v24,h⟩ (fun s=>kc (CL mx) run lp (ajy mx) s κn κx) κx:=by kernel_rfl
theorem afF:kc (CL mx) run lp (ajU mx) ⟨dR v0 v1 v4 v5 v12 v24,h⟩ κn κx=kc (CL mx) run lp (amR mx) ⟨dR v0 v1 v4 v5 v12 v24,h⟩ (fun s=>kc (CL mx) run lp (ald mx) s κn κx) κx:=by kernel_rfl
theorem ag5:kc (CL mx) run lp (ajy mx) ⟨dR v0 v1 v4 v5 v12 v24,h⟩ κn κx=aC v0 h (fun a0 h=>ao 10 a0 h (fun a1 h=>ar a1 h (fun a2 h=>aL (fun a3 h=>bH a3 h (fun a4 h=>cmp cj a4 (.int 9223372036854775807 0) h (fun a5 h=>bG a5 (κx .ret ⟨dR v0 v1 (.int 255 0) a3 v12 a5,h⟩) (bT 1 a3 (.int 9223372036854775807 0) h (fun a6 h=>ar a6 h (fun a7 h=>κx .ret ⟨dR v0 v1 a7 a3 v12 a5,h⟩)))))) (aD (CL mx) run 176 [v0,(.int 18446744073709551615 1),a2] h)))):=by kernel_rfl
theorem agl:kc (CL mx) run lp (amR mx) ⟨dR v0 v1 v4 v5 v12 v24,h⟩ κn κx=kcR κn κx (fC (sRd [] h (aY v0 h kVH) fun r0=>sRd [r0.v] r0.h' (aC r0.v r0.h' kVH) fun r1=>sRd [r1.v,r0.v] r1.h' (ao 10 r1.v r1.h' kVH) fun r2=>sRd [r2.v,r1.v,r0.v] r2.h' (ar r2.v r2.h' kVH) fun r3=>sRd [r3.v,r2.v,r1.v,r0.v] r3.h' (aY v0 r3.h' kVH) fun r4=>sEf [r4.v,r3.v,r2.v,r1.v,r0.v] r4.h' (aL kVH (aD (CL mx) run 178 [r4.v] r4.h')) fun r5=>sRd [r5.v,r4.v,r3.v,r2.v,r1.v,r0.v] r5.h' (cmp cj r3.v r5.v r5.h' kVH) fun r6=>bq (and (cz r0 (OK.f (.mk (o1 aY (.tr 0))) (CL mx) run r0.σ (dR v0 v1 v4 v5 v12 v24) (cF (aj r0.h) r5.h') kVH)) (and (cz r1 (OK.f (.mk (o1 aC (.st 0))) (CL mx) run r1.σ (dR v0 v1 v4 v5 v12 v24) (cF (aj r1.h) r5.h') kVH)) (and (cz r2 (OK.f (.mk (o1 (ao 10) (.st 0))) (CL mx) run r2.σ (dR v0 v1 v4 v5 v12 v24) (cF (aj r2.h) r5.h') kVH)) (and (cz r3 (OK.f (.mk (o1 ar (.st 0))) (CL mx) run r3.σ (dR v0 v1 v4 v5 v12 v24) (cF (aj r3.h) r5.h') kVH)) (true))))) (some (.st (dR v0 v1 v4 v5 r6.v v24) r6.h')) none)):=(gL (C:=CL mx) (D:=bC (CL mx) (opsOf (cAt [1,0,0] (aH (CL mx) 224))).toList (bM (opsOf (cAt [1,0,0] (aH (CL mx) 224))).toList) 0 (aV (CL mx) (opsOf (cAt [1,0,0] (aH (CL mx) 224))).toList [] (opsOf (cAt [1,0,0] (aH (CL mx) 224))).toList)) (pl:=bo (CL mx) (opsOf (cAt [1,0,0] (aH (CL mx) 224)))) (fl:=flL [0,1,4,5,12,24] (opsOf (cAt [1,0,0] (aH (CL mx) 224))).toList) (by kernel_rfl) _ _ _).trans (by kernel_rfl)
theorem afV:kc (CL mx) run lp (ald mx) ⟨dR v0 v1 v4 v5 v12 v24,h⟩ κn κx=bG v12 (aL (fun a0 h=>κx .ret ⟨dR v0 v1 (.int 255 0) v5 v12 v24,h⟩) (aD (CL mx) run 114 [v0,(.int 9223372036854775807 214),v1] h)) (κn ⟨dR v0 v1 v4 v5 v12 v24,h⟩):=by kernel_rfl
theorem adf:aW (dR v0 v1 v4 v5 v12 v24) 0=v0:=(rfl)
theorem aaU:kcE (CL mx) [.tmp 4] ⟨dR v0 v1 v4 v5 v12 v24,h⟩=some (.vh v4 h):=(bJ _ _ _).trans (by kernel_rfl)
theorem amY:dp (CL mx) 224=some ⟨acu mx,[0,1,4,5,12,24],28,[.tmp 4]⟩:=by kernel_rfl
end
theorem amV (mx:Int) (run:Run) (lp:Lp) (x0 x1:AV) (h:AH):cW (CL mx) run lp 224 [x0,x1] h=vhO (kc (CL mx) run lp (acu mx) ⟨dR x0 x1 .bot .bot .bot .bot,h⟩ (kcE (CL mx) [.tmp 4]) (kcQ (CL mx) [.tmp 4])):=(bK (by kernel_rfl) (amY mx) (by kernel_rfl)).trans (by kernel_rfl)
end
section
variable {mx:Int} {m:Nat} {K:RC} {kd:Nat→Nat} {h:AH} {p:Nat} {c:PC} {s:PR}
structure Wf (c:PC) (s:PR):Prop where
 at_:s.at_≤c.data.length
 last:s.last≤c.data.length
 parts:s.parts≤1000000000
 dep:c.depth≤1000000
 stk:s.stack.length≤100000
theorem n64 (n:Nat):N64 n= .int 9223372036854775807 (n:Int):=rfl
theorem Nx.same {n:Nat} (R:RS m K kd h p c s):Nx n m K kd h p c s h:=⟨kd,R,Nat.le_refl _,fun i _ _=>⟨rfl,by assumption⟩⟩
theorem aje (R:RS m K kd h p c s) (f:Nat):aG (fun r h'=>r= .bool (decide (s.code=0))∧h'=h) ((rl (CL mx) (f+1)).run 112 [.pto p 0] h):=by
 refine aG.runs (n:=f) (aox mx _ _ _ _) ?_
 obtain ⟨stp,y,sl,st,ct,cl,Q,hp,_⟩:=R.ex
 unfold rdL at hp
 have e:decide ((s.code:Int)=0)=decide (s.code=0):=by
  by_cases c:s.code=0
  ·rw [decide_eq_true c,decide_eq_true_iff];omega
  ·rw [decide_eq_false c,decide_eq_false_iff_not];omega
 simp only [sy,List.length_append,Nat.reduceAdd,Nat.reduceMul,Nat.reduceSub,Nat.reduceLeDiff,Nat.reduceEqDiff,Nat.reduceLT,reduceIte,asD,hp,n64,e]
 exact Ends.mk ⟨rfl,rfl⟩
theorem wE (R:RS m K kd h p c s) (f:Nat):aG (fun r h'=>r= .int 9223372036854775807 4611686018427387904∧h'=h) ((rl (CL mx) (f+1)).run 178 [.pto p 0] h):=by
 refine aG.runs (n:=f) (amN mx _ _ _ _) ?_
 obtain ⟨stp,y,sl,st,ct,cl,Q,hp,_⟩:=R.ex
 unfold rdL at hp
 simp only [sy,List.length_append,Nat.reduceAdd,Nat.reduceMul,Nat.reduceSub,Nat.reduceLeDiff,Nat.reduceEqDiff,Nat.reduceLT,reduceIte,arL,hp,decide_true]
 exact Ends.mk ⟨rfl,rfl⟩
theorem eM (R:RS m K kd h p c s) (e a:Nat) (f:Nat):aG (fun r h'=>r= .tup []∧RS m K kd h' p c (s.bh e a)∧h'.length=h.length∧ ∀i,kd i≠1→ae h' i=ae h i) ((rl (CL mx) (f+1)).run 114 [.pto p 0,.int 9223372036854775807 (e:Int),.int 9223372036854775807 (a:Int)] h):=by
 refine aG.runs (n:=f) (ajh mx _ _ _ _ _ _) ?_
 obtain ⟨stp,y,sl,st,ct,cl,Q,hp,o2,o3,ok,o4,o5⟩:=R.ex
 have hp':=hp
 unfold rdL at hp'
 by_cases c0:s.code=0
 ·have g:decide ((s.code:Int)=0)=true:=by rw [decide_eq_true_iff];omega
  simp only [sy,List.length_append,Nat.reduceAdd,Nat.reduceMul,Nat.reduceSub,Nat.reduceLeDiff,Nat.reduceEqDiff,Nat.reduceLT,reduceIte,acE,hp',n64,g]
  refine wEq (eB (cs:=[.int 9223372036854775807 (e:Int),.int 9223372036854775807 (a:Int)]) (by kernel_rfl)) ?_
  simp only [sy,List.length_append,Nat.reduceAdd,Nat.reduceMul,Nat.reduceSub,Nat.reduceLeDiff,Nat.reduceEqDiff,Nat.reduceLT,reduceIte,acE,hp',n64]
  refine Ends.mk ⟨rfl,?_,by simp,fun i hi=>ai (fun cc=>hi (by rw [←cc];exact R.kp)) _⟩
  have:=R.upd (s':={s with code:=e,fat:=a}) (stp':=stp) (y':=y) o2 o3 ok o4 o5
  unfold PR.bh
  rw [if_pos c0]
  exact this
 ·have g:decide ((s.code:Int)=0)=false:=by rw [decide_eq_false_iff_not];omega
  simp only [sy,List.length_append,Nat.reduceAdd,Nat.reduceMul,Nat.reduceSub,Nat.reduceLeDiff,Nat.reduceEqDiff,Nat.reduceLT,reduceIte,acE,hp',n64,g]
  refine Ends.mk ⟨rfl,?_,rfl,fun i _=>rfl⟩
  unfold PR.bh
  rw [if_neg c0];exact R
def ZT:List AV:=[.int 18446744073709551615 0,.bool false,.nils,.nils]
theorem adq (h:AH) (κ:Ka):fD 4 1 [.int 18446744073709551615 0,.bool false,.nils,.nils] [(0,.agg [.int 18446744073709551615 0,.bool false,.nils,.nils])] h κ=κ (.slo h.length 0 1 1 4 true) (h++[some (.cells ZT 0)]):=by
 have e:fD 4 1 [.int 18446744073709551615 0,.bool false,.nils,.nils] [(0,.agg [.int 18446744073709551615 0,.bool false,.nils,.nils])] h κ=κ (.slo (aj h) 0 1 1 4 true) (aJ h [some (.cells ZT 0)]):=by kernel_rfl
 rw [e,ah,aP]
theorem yS (h:AH):cQ (h++[some (.cells ZT 0)]) 4 1 (.slo h.length 0 1 1 4 true)=some ZT:=by
 unfold cQ
 simp only [aI]
 rfl
theorem xx {Q:Option Rs→Prop} (T:Tm) (HA HB:AH) (K:Option Rs) (e:HB=HA) (q:Q K):Q (bq (ae4 ⟨T,HA⟩ ⟨T,HB⟩) K none):=by
 subst e
 rw [ab0];exact q
theorem OwR.push {S:Nat→Prop} {v:AV} {rows:List (List AV)} {q:List AV} (r:OwR h S 4 v rows) (hl:rows.length≤100000) (hq:q.length=4) (hp:aR q=true) (ty:Nat) {by_:Nat} (hby:by_≤1000):
 ∃(v':AV) (h1:AH) (P:AV) (b:Nat) (X:Option Blk),(∀κ:Ka,eH ty 4 by_ v (.slo h.length 0 1 1 4 true) (h++[some (.cells ZT 0)]) κ=κ v' h1)∧h.length+1≤h1.length∧(∀i,¬S i→i<h.length→ae h1 i=ae h i)∧
  (∀(h':AH) (κ:Ka),bT 4 v' (.int 9223372036854775807 (rows.length:Int)) h' κ=κ P h')∧P.lt (aj h1)=true∧v'.plain=true∧((S b∧b<h.length)∨b=h.length+1)∧b<h1.length∧
  (∀κ:Ka,aK 4 P (.agg q) h1 κ=κ (.tup []) (h1.set b X))∧(∀(i:Nat) (Y:Option Blk),i≠b→ ∀κ:Ka,aK 4 P (.agg q) (h1.set i Y) κ=κ (.tup []) ((h1.set i Y).set b X))∧
  ∀h',ae h' b=X→OwR h' (fun i=>(S i∧i<h.length)∨i=h.length+1) 4 v' (rows++[q]):=by
 have r2:OwR (h++[some (Blk.cells ZT 0)]) (fun b=>S b∧b<h.length) 4 v rows:=r.mono fun b hb hs=>⟨⟨hs,hb⟩,aq hb _⟩
 obtain ⟨v',h1,a1,a2,a3,a4⟩:=r2.app ty hby (by decide) (x:=.slo h.length 0 1 1 4 true) (q:=ZT) rfl (yS h) rfl rfl hl
 have hlen:(h++[some (Blk.cells ZT 0)]).length=h.length+1:=by simp
 rw [hlen] at a2 a3 a4
 obtain ⟨hr,⟨c,_⟩|⟨b,cap,e,junk,y,hs,o⟩⟩:=a2
 ·simp at c
 ·have hz:(rows++[ZT])[rows.length]? =some ZT:=by simp
  have el:=o.el hr hz
  obtain ⟨st,o'⟩:=o.stG hr hz hq hp
  have hset:(rows++[ZT]).set rows.length q=rows++[q]:=by rw [mA]
  rw [hset] at st o'
  have hr': ∀r∈rows++[q],r.length=4:=fun x hx=>by
   rcases List.mem_append.1 hx with hx|hx
   ·exact r.1 x hx
   ·obtain rfl:x=q:=by simpa using hx
    exact hq
  refine ⟨v',h1,.pto b (rows.length*4),b,some (Blk.cells ((rows++[q]).flatten++junk) y),a1,a3,fun i hi hl=>?_,fun h' κ=>el.idx _ h' κ,by rw [gH,ah];exact decide_eq_true o.lt,by rw [o.val];rfl,hs,o.lt,st,fun i Y hi κ=>?_,fun h' hb=>⟨hr',.inr ⟨b,cap,e,junk,y,hs,?_⟩⟩⟩
  ·rw [a4 i (fun cc=>hi cc.1) (by omega),aq hl]
  ·have o2:OwB (h1.set i Y) 4 v' (rows++[ZT]) b cap e junk y:=⟨o.val,by rw [ai hi];exact o.blk,o.fit,o.len⟩
   obtain ⟨st2,_⟩:=o2.stG hr hz hq hp
   rw [hset] at st2
   exact st2 κ
  ·exact ⟨o'.val,hb,o'.fit,o'.len⟩
theorem ak5 {Q:Option Rs→Prop} {κn:Kt} {κx:Ex→Kt} {run:Run} {lp:Lp} {v1 v3 v4 v22:AV} (R:RS m K kd h p c s) (hs:s.stack.length≤100000) (hz: ∀κ:Ka,aQ 4 v3 h κ=κ (.agg ZT) h)
 (k: ∀h',Nx h.length m K kd h p c {s with stack:=.nd 0 false [] []::s.stack} h'→Q (κn ⟨cM (.pto p 0) v1 v3 v4 v22,h'⟩)):
 Q (kc (CL mx) run lp (abH mx) ⟨cM (.pto p 0) v1 v3 v4 v22,h⟩ κn κx):=by
 obtain ⟨stp,y,sl,st,ct,cl,QQ,hp,o2,o3,ok,o4,o5⟩:=R.ex
 have hp':=hp
 unfold rdL at hp'
 have hpl:=aO hp
 have hQ:QQ.reverse.length≤100000:=by rw [List.length_reverse,ok.len];exact hs
 obtain ⟨v',h1,P,b,X,a1,a2,a3,a4,a5,a6,a7,a8,a9,a10,a11⟩:=o3.push hQ (q:=ZT) rfl rfl (69+1) (by_:=64) (by decide)
 have hpb:p≠b:=fun cc=>by
  rcases a7 with ⟨a7,_⟩|a7
  ·rw [←cc,R.kp] at a7;cases a7
  ·omega
 have hp1:ae h1 p=some (.cells (rdL K c s stp sl st ct cl) y):=by rw [a3 p (by rw [R.kp];decide) hpl];exact hp
 have hp2:ae (h1.set b X) p=some (.cells (rdL K c s stp sl st ct cl) y):=by rw [ai (Ne.symm hpb)];exact hp1
 have hp0:ae (h++[some (.cells ZT 0)]) p=some (.cells (rdL K c s stp sl st ct cl) y):=by rw [aq hpl];exact hp
 unfold rdL at hp1 hp2 hp0
 have len3:=fun (h':AH) (κ:Ka)=>o3.bH h' κ
 have ble1:Nat.ble (aj (h++[some (.cells ZT 0)])) (aj h1)=true:=by rw [bL,ah,ah];simpa using a2
 have ble2: ∀(i:Nat) (x:Option Blk) (y:AH),Nat.ble (aj y) (aj (y.set i x))=true:=fun i x y=>by rw [bL,ah,ah];simp
 have lt1: ∀j,AV.lt (aj (h1.set b X)) (.pto p j)=true:=fun j=>by rw [gH,ah,decide_eq_true_iff,List.length_set];omega
 simp only [sy,List.length_append,Nat.reduceAdd,Nat.reduceMul,Nat.reduceSub,Nat.reduceLeDiff,Nat.reduceEqDiff,Nat.reduceLT,reduceIte,ahb,kc2,hp',hz,len3,adq,a1,ble1,a4,a9,ble2,lt1,hp2,a6,a5,hp1,a10 p _ hpb]
 refine xx _ _ _ _ (List.set_comm _ _ hpb) ?_
 have hlen:h.length+1≤h1.length:=a2
 let kd2:Nat→Nat:=fun i=>if i<h.length then kd i else if i=h.length+1 then 3 else 0
 have k2l: ∀i,i<h.length→kd2 i=kd i:=fun i hi=>if_pos hi
 have k2n:kd2 (h.length+1)=3:=by show (if h.length+1<h.length then _ else if h.length+1=h.length+1 then 3 else 0)=3;rw [if_neg (by omega),if_pos rfl]
 have hb3:b<h.length→kd b=3:=fun c=>by
  rcases a7 with ⟨a7,_⟩|a7
  ·exact a7
  ·omega
 have fr: ∀i,i<h.length→kd i≠3→i≠p→ ∀Y,ae ((h1.set b X).set p Y) i=ae h i:=fun i hi h3 hip Y=>by
  rw [ai (Ne.symm hip),ai (fun cc=>h3 (by rw [←cc];exact hb3 (by omega))),a3 i h3 hi]
 have mm: ∀{j:Nat} {Y:Option Blk},j≠1→j≠3→ ∀b',b'<h.length→kd b'=j→kd2 b'=j∧ae ((h1.set b X).set p Y) b'=ae h b':=fun h1' h3' b' hb' e=>⟨by rw [k2l _ hb'];exact e,fr b' hb' (by rw [e];exact h3') (fun cc=>h1' (by rw [←e,cc];exact R.kp)) _⟩
 have hml:=R.ml
 refine k _ ⟨kd2,R.make (stp':=stp) (y':=y) (sl:=sl) (st:=v') (ct:=ct) (cl:=cl) (Q:=ZT::QQ) (by rw [k2l p hpl];exact R.kp) (fun i hi=>⟨by rw [k2l i (by omega)];exact R.lo i hi,fr i (by omega) (by rw [R.lo i hi];decide) (Ne.symm (R.iI (R.lo i hi))) _⟩) (by rw [List.length_set,List.length_set];omega) (az (by rw [List.length_set];omega) _)
  (o2.mono (mm (by decide) (by decide))) ?_ ?_ (o4.mono (mm (by decide) (by decide))) (o5.mono (mm (by decide) (by decide))),by rw [List.length_set,List.length_set];omega,fun i hi h0=>⟨fr i hi (by rw [h0];decide) (Ne.symm (R.iI h0)) _,by rw [k2l i hi];exact h0⟩⟩
 ·rw [List.reverse_cons]
  refine (a11 _ (by rw [ai hpb,az a8])).mono fun b' hb' hs'=>⟨?_,rfl⟩
  rcases hs' with ⟨hs',c⟩|rfl
  ·rw [k2l b' c];exact hs'
  ·exact k2n
 ·refine ⟨?_,ok.mono fun b' hb' h6 _=>⟨k2l b' hb',fr b' hb' (by omega) (fun cc=>by rw [cc,R.kp] at h6;omega) _⟩⟩
  show fK _ _ ZT (.nd 0 false [] [])
  unfold fK
  exact ⟨.nils,.nils,rfl,.inl ⟨rfl,rfl⟩,.inl ⟨rfl,rfl⟩⟩
theorem asT {q y:Nat} (hq:ae h q=some (.cells ZT y)) (κ:Ka):aQ 4 (.pto q 0) h κ=κ (.agg ZT) h:=by
 rw [kT,hq,aT];rfl
theorem yj {Q:Option Rs→Prop} {κn:Kt} {κx:Ex→Kt} {run:Run} {lp:Lp} {v1 v4 v22:AV} (R:RS m K kd h p c s) (hpt:s.parts≤1000000000) (hs:s.stack.length≤100000) {q yq:Nat} (hq:ae h q=some (.cells ZT yq)) (hq0:kd q=0)
 (k: ∀h',Nx h.length m K kd h p c {s with parts:=s.parts+1,stack:=.nd 0 false [] []::s.stack} h'→Q (κn ⟨cM (.pto p 0) v1 (.pto q 0) v4 v22,h'⟩)):
 Q (kc (CL mx) run lp (acP mx) ⟨cM (.pto p 0) v1 (.pto q 0) v4 v22,h⟩ κn κx):=by
 obtain ⟨stp,y,sl,st,ct,cl,QQ,hp,o2,o3,ok,o4,o5⟩:=R.ex
 have hp':=hp
 unfold rdL at hp'
 have w:aZ 9223372036854775807 ((s.parts:Int)+1)=((s.parts+1:Nat):Int):=by rw [bd (by omega) (by omega)];simp
 simp only [sy,List.length_append,Nat.reduceAdd,Nat.reduceMul,Nat.reduceSub,Nat.reduceLeDiff,Nat.reduceEqDiff,Nat.reduceLT,reduceIte,afP,hp',n64,w]
 refine ak5 (R.upd (s':={s with parts:=s.parts+1}) (stp':=stp) (y':=y) o2 o3 ok o4 o5) hs (fun κ=>asT (y:=yq) (by rw [ai (R.iI hq0)];exact hq) κ) fun h' nx=>?_
 obtain ⟨kd',R',l',f'⟩:=nx
 refine k h' ⟨kd',R',by rw [List.length_set] at l';exact l',fun i hi h0=>?_⟩
 obtain ⟨e1,e2⟩:=f' i (by rw [List.length_set];exact hi) h0
 exact ⟨by rw [e1,ai (R.iI h0)],e2⟩
theorem jI (s:PR) (e a:Nat):(s.bh e a).stack=s.stack∧(s.bh e a).parts=s.parts:=by
 unfold PR.bh
 split<;>exact ⟨rfl,rfl⟩
theorem kF (R:RS m K kd h p c s) (W:Wf c s) (f:Nat):aG (fun r h'=>r= .tup []∧Nx h.length m K kd h p c (s.open_ c) h') ((rl (CL mx) (f+2)).run 170 [.pto p 0,.agg [.int 18446744073709551615 0,.bool false,.nils,.nils]] h):=by
 refine aG.runs (n:=f+1) (aml mx _ _ _ _ _) ?_
 have hz:=aI h (some (Blk.cells ZT (69+1)))
 have R1:=R.grow (h':=h++[some (Blk.cells ZT (69+1))]) (by simp) (fun i hi=>aq hi _)
 have bx: ∀κ:Ka,gZ (69+1) (.agg [.int 18446744073709551615 0,.bool false,.nils,.nils]) h κ=κ (.pto h.length 0) (h++[some (Blk.cells ZT (69+1))]):=fun κ=>by rw [dP];rfl
 have fz: ∀i,i<h.length→ae (h++[some (Blk.cells ZT (69+1))]) i=ae h i:=fun i hi=>aq hi _
 have hl1:(h++[some (Blk.cells ZT (69+1))]).length=h.length+1:=by simp
 have k0:cN kd h.length 0 h.length=0:=fP (Nat.le_refl _)
 have fin: ∀{s':PR} {h2 h':AH},h2.length=h.length+1→(∀i,cN kd h.length 0 i≠1→ae h2 i=ae (h++[some (Blk.cells ZT (69+1))]) i)→Nx h2.length m K (cN kd h.length 0) h2 p c s' h'→Nx h.length m K kd h p c s' h':=fun hl hf nx=>by
  obtain ⟨kd',R',l',f'⟩:=nx
  refine ⟨kd',R',by omega,fun i hi h0=>?_⟩
  have e0:cN kd h.length 0 i=0:=by rw [bR hi];exact h0
  obtain ⟨e1,e2⟩:=f' i (by omega) e0
  exact ⟨by rw [e1,hf i (by rw [e0];decide),fz i hi],e2⟩
 refine wEq (agv ..) ?_
 refine wEq (bx _) ?_
 obtain ⟨stp,y,sl,st,ct,cl,QQ,hp,o2,o3,ok,o4,o5⟩:=R1.ex
 generalize hH:h++[some (Blk.cells ZT (69+1))]=h1 at*
 have hp':=hp
 unfold rdL at hp'
 have l3:=fun h' κ=>o3.bH h' κ
 rw [List.length_reverse,ok.len] at l3
 have W':=W
 obtain ⟨w1,w2,w3,w4,w5⟩:=W'
 by_cases d:c.depth<s.stack.length
 ·have g:decide ((c.depth:Int)<(s.stack.length:Int))=true:=by rw [decide_eq_true_iff];omega
  simp only [sy,List.length_append,Nat.reduceAdd,Nat.reduceMul,Nat.reduceSub,Nat.reduceLeDiff,Nat.reduceEqDiff,Nat.reduceLT,reduceIte,rz,rF,qM,hp',n64,l3,g]
  refine bE (eM R1 218 s.at_ f).call ?_
  rintro r h2 ⟨rfl,R2,n2,f2⟩
  have ws:=jI s 218 s.at_
  refine yj R2 (by rw [ws.2];exact w3) (by rw [ws.1];exact w5) (q:=h.length) (by rw [f2 _ (by rw [k0];decide)];exact hz) k0 fun h' nx=>?_
  simp only [sy,List.length_append,Nat.reduceAdd,Nat.reduceMul,Nat.reduceSub,Nat.reduceLeDiff,Nat.reduceEqDiff,Nat.reduceLT,reduceIte,vm]
  refine Ends.mk ⟨rfl,fin (by rw [n2,hl1]) f2 ?_⟩
  unfold PR.open_
  rw [if_pos d,←ws.1,←ws.2];exact nx
 ·have g:decide ((c.depth:Int)<(s.stack.length:Int))=false:=by rw [decide_eq_false_iff_not];omega
  by_cases d2:c.tokens≤s.parts
  ·have g2:decide ((c.tokens:Int)≤(s.parts:Int))=true:=by rw [decide_eq_true_iff];omega
   simp only [sy,List.length_append,Nat.reduceAdd,Nat.reduceMul,Nat.reduceSub,Nat.reduceLeDiff,Nat.reduceEqDiff,Nat.reduceLT,reduceIte,rz,rF,qM,wY,vZ,hp',n64,l3,g,g2]
   refine bE (eM R1 219 s.at_ f).call ?_
   rintro r h2 ⟨rfl,R2,n2,f2⟩
   have ws:=jI s 219 s.at_
   refine yj R2 (by rw [ws.2];exact w3) (by rw [ws.1];exact w5) (q:=h.length) (by rw [f2 _ (by rw [k0];decide)];exact hz) k0 fun h' nx=>?_
   simp only [sy,List.length_append,Nat.reduceAdd,Nat.reduceMul,Nat.reduceSub,Nat.reduceLeDiff,Nat.reduceEqDiff,Nat.reduceLT,reduceIte,vm]
   refine Ends.mk ⟨rfl,fin (by rw [n2,hl1]) f2 ?_⟩
   unfold PR.open_
   rw [if_neg d,if_pos d2,←ws.1,←ws.2];exact nx
  ·have g2:decide ((c.tokens:Int)≤(s.parts:Int))=false:=by rw [decide_eq_false_iff_not];omega
   simp only [sy,List.length_append,Nat.reduceAdd,Nat.reduceMul,Nat.reduceSub,Nat.reduceLeDiff,Nat.reduceEqDiff,Nat.reduceLT,reduceIte,rz,rF,qM,wY,vZ,hp',n64,l3,g,g2]
   refine yj R1 w3 w5 (q:=h.length) hz k0 fun h' nx=>?_
   simp only [sy,List.length_append,Nat.reduceAdd,Nat.reduceMul,Nat.reduceSub,Nat.reduceLeDiff,Nat.reduceEqDiff,Nat.reduceLT,reduceIte,vm]
   refine Ends.mk ⟨rfl,fin hl1 (fun i _=>rfl) ?_⟩
   unfold PR.open_
   rw [if_neg d,if_neg d2];exact nx
theorem ah3 {S:Nat→Prop} {kv:AV} {ks:List PT} (hk:(ks=[]∧kv= .nils)∨ ∃kb e rows y,kv= .slo kb 0 ks.length ks.length 4 e∧S kb∧ae h kb=some (.cells rows.flatten y)∧cw h (fun b=>S b∧b<kb) rows ks)
 (hl:ks.length≤100000) {q:List AV} (hq:q.length=4) (hp:aR q=true) (ty:Nat) {by_:Nat} (hby:by_≤1000):
 ∃(h1:AH) (P:AV) (rows:List (List AV)) (y:Nat),(∀κ:Ka,eH ty 4 by_ kv (.slo h.length 0 1 1 4 true) (h++[some (.cells ZT 0)]) κ=κ (.slo (h.length+1) 0 (ks.length+1) (ks.length+1) 4 false) h1)∧h1.length=h.length+2∧(∀i,¬S i→i<h.length→ae h1 i=ae h i)∧
  (∀(h':AH) (κ:Ka),bT 4 (.slo (h.length+1) 0 (ks.length+1) (ks.length+1) 4 false) (.int 9223372036854775807 (ks.length:Int)) h' κ=κ P h')∧P.lt (aj h1)=true∧
  (∀κ:Ka,aK 4 P (.agg q) h1 κ=κ (.tup []) (h1.set (h.length+1) (some (.cells (rows++[q]).flatten y))))∧(∀(i:Nat) (Y:Option Blk),i≠h.length+1→ ∀κ:Ka,aK 4 P (.agg q) (h1.set i Y) κ=κ (.tup []) ((h1.set i Y).set (h.length+1) (some (.cells (rows++[q]).flatten y))))∧
  rows.length=ks.length∧cw h1 (fun b=>S b∧b<h.length) rows ks:=by
 have hlen:(h++[some (Blk.cells ZT 0)]).length=h.length+1:=by simp
 have go: ∀(h1:AH) (rows:List (List AV)) (y cap:Nat),(∀r∈rows++[ZT],r.length=4)→rows.length=ks.length→OwB h1 4 (.slo (h.length+1) 0 (ks.length+1) (ks.length+1) 4 false) (rows++[ZT]) (h.length+1) cap false [] y→
  (∀(h':AH) (κ:Ka),bT 4 (.slo (h.length+1) 0 (ks.length+1) (ks.length+1) 4 false) (.int 9223372036854775807 (ks.length:Int)) h' κ=κ (.pto (h.length+1) (ks.length*4)) h')∧(AV.pto (h.length+1) (ks.length*4)).lt (aj h1)=true∧
  (∀κ:Ka,aK 4 (.pto (h.length+1) (ks.length*4)) (.agg q) h1 κ=κ (.tup []) (h1.set (h.length+1) (some (.cells (rows++[q]).flatten y))))∧(∀(i:Nat) (Y:Option Blk),i≠h.length+1→ ∀κ:Ka,aK 4 (.pto (h.length+1) (ks.length*4)) (.agg q) (h1.set i Y) κ=κ (.tup []) ((h1.set i Y).set (h.length+1) (some (.cells (rows++[q]).flatten y)))):=by
  intro h1 rows y cap hr hrl o
  have hz:(rows++[ZT])[ks.length]? =some ZT:=by rw [←hrl];simp
  have el:=o.el hr hz
  have hset:(rows++[ZT]).set ks.length q=rows++[q]:=by rw [←hrl,mA]
  refine ⟨fun h' κ=>el.idx _ h' κ,by rw [gH,ah];exact decide_eq_true o.lt,fun κ=>?_,fun i Y hi κ=>?_⟩
  ·have:=(o.stG hr hz hq hp).1 κ
   rw [hset,List.append_nil] at this;exact this
  ·have o2:OwB (h1.set i Y) 4 (.slo (h.length+1) 0 (ks.length+1) (ks.length+1) 4 false) (rows++[ZT]) (h.length+1) cap false [] y:=⟨o.val,by rw [ai hi];exact o.blk,o.fit,o.len⟩
   have:=(o2.stG hr hz hq hp).1 κ
   rw [hset,List.append_nil] at this;exact this
 rcases hk with ⟨rfl,rfl⟩|⟨kb,e,rows,y,rfl,hs,hb,T⟩
 ·obtain ⟨a1,o⟩:=apZ (h:=h++[some (Blk.cells ZT 0)]) (z:=4) ty hby (by decide) (x:=.slo h.length 0 1 1 4 true) (q:=ZT) rfl (yS h) rfl rfl
  rw [hlen] at a1 o
  obtain ⟨g1,g2,g3,g4⟩:=go _ [] ty 1 (by simp [ZT]) rfl o
  exact ⟨_,_,[],ty,a1,by simp,fun i _ hi=>by rw [aq (by omega),aq hi],g1,g2,g3,g4,rfl,by unfold cw;rfl⟩
 ·have hrows:=T.rows
  have ob:OwB (h++[some (Blk.cells ZT 0)]) 4 (.slo kb 0 ks.length ks.length 4 e) rows kb ks.length e [] y:=⟨by rw [hrows.1],by rw [aq (aO hb),hb];simp,by omega,by rw [jM hrows.2,hrows.1];simp⟩
  have hx1:=yS h
  generalize hH:h++[some (Blk.cells ZT 0)]=H at*
  obtain ⟨v',h1,b',cap',e',junk',y',a1,o',hb',hl',hf,hx⟩:=appZ ty hby ob hrows.2 (x:=.slo h.length 0 1 1 4 true) (q:=ZT) rfl hx1 rfl rfl (by rw [hrows.1];exact hl)
  obtain ⟨rfl,rfl,rfl,rfl,n1⟩:=hx hrows.1
  have hHl: ∀i,i<h.length→ae H i=ae h i:=fun i hi=>by rw [←hH];exact aq hi _
  rw [hlen] at o' hl' hf n1
  have hv:v'= .slo (h.length+1) 0 (ks.length+1) (ks.length+1) 4 false:=by rw [o'.val];simp [hrows.1]
  subst hv
  obtain ⟨g1,g2,g3,g4⟩:=go _ rows y' _ (fun r hr=>by
   rcases List.mem_append.1 hr with hr|hr
   ·exact hrows.2 r hr
   ·obtain rfl:r=ZT:=by simpa using hr
    rfl) hrows.1 o'
  have hkl:=aO hb
  have f: ∀i,i≠kb→i<h.length→ae h1 i=ae h i:=fun i hi hl=>by rw [hf i hi (by omega),hHl i hl]
  exact ⟨h1,_,rows,y',a1,n1,fun i hi hl=>f i (fun cc=>hi (by rw [cc];exact hs)) hl,g1,g2,g3,g4,hrows.1,T.mono ks fun b hb' hs'=>⟨⟨hs'.1,hb'⟩,f b (by omega) hb'⟩⟩
theorem tQ (R:RS m K kd h p c s) {t u:PT} {r:List PT} (hs:s.stack=t::u::r) (hlen:r.length≤90000) (hkids: ∀n b d ks,u= .nd n b d ks→ks.length≤90000∧d=[]) (f:Nat):
 aG (fun x h'=>x= .tup []∧Nx h.length m K kd h p c s.close h') ((rl (CL mx) (f+1)).run 171 [.pto p 0] h):=by
 refine aG.runs (n:=f) (aiv mx _ _ _ _) ?_
 obtain ⟨stp,y,sl,st,ct,cl,QQ,hp,o2,o3,ok,o4,o5⟩:=R.ex
 have hpl:=aO hp
 rw [hs] at ok
 obtain ⟨qt,Q1,rfl⟩: ∃q Q,QQ=q::Q:=by
  cases QQ with
  |nil=>exact ok.elim
  |cons q Q=>exact ⟨q,Q,rfl⟩
 obtain ⟨ok1,ok⟩:=ok
 obtain ⟨qu,Qr,rfl⟩: ∃q Q,Q1=q::Q:=by
  cases Q1 with
  |nil=>exact ok.elim
  |cons q Q=>exact ⟨q,Q,rfl⟩
 obtain ⟨ok2,ok3⟩:=ok
 have hQr:=ok3.len
 have hrev:(qt::qu::Qr).reverse=Qr.reverse++[qu,qt]:=by simp
 rw [hrev] at o3
 have hrl:(Qr.reverse++[qu,qt]).length=r.length+2:=by simp [hQr]
 have hgu:(Qr.reverse++[qu,qt])[r.length]? =some qu:=by rw [←hQr];simp
 have hgt:(Qr.reverse++[qu,qt])[r.length+1]? =some qt:=by rw [←hQr];simp
 cases u with
 |nd nu bu du ku=>
  obtain ⟨hku,rfl⟩:=hkids nu bu du ku rfl
  unfold fK at ok2
  obtain ⟨dv,kv,rfl,du2,hk⟩:=ok2
  obtain rfl:dv= .nils:=by
   rcases du2 with ⟨_,e⟩|⟨c,_⟩
   ·exact e
   ·exact absurd rfl c
  have tf:=ok1.four
  obtain ⟨h1,P,rows,yk,a1,a2,a3,a4,a5,a6,a7,a8,a9⟩:=ah3 hk (by omega) tf.1 tf.2 (69+1) (by_:=64) (by decide)
  have lenk: ∀(h':AH) (κ:Ka),bH kv h' κ=κ (.int 9223372036854775807 (ku.length:Int)) h':=fun h' κ=>by
   rcases hk with ⟨rfl,rfl⟩|⟨kb,e,rows,y,rfl,_⟩<;>rfl
  have o3':=o3
  have len3:=fun (h':AH) (κ:Ka)=>o3.bH h' κ
  rw [hrl] at len3
  obtain ⟨hr,⟨cc,_⟩|⟨bs,cap,e,junk,y3,hbs,ob⟩⟩:=o3'
  ·simp at cc
  have hbs':kd bs=3:=hbs
  have elu:=ob.el hr hgu
  have elt:=ob.el hr hgt
  have hbp:p≠bs:=fun cc=>by rw [←cc,R.kp] at hbs';cases hbs'
  have fr1: ∀i,i<h.length→kd i≠6+r.length→ae h1 i=ae h i:=fun i hi h6=>a3 i h6 hi
  have ob1:OwB h1 4 st (Qr.reverse++[[.int 18446744073709551615 (nu:Int),.bool bu,.nils,kv],qt]) bs cap e junk y3:=⟨ob.val,by rw [fr1 bs ob.lt (by omega)];exact ob.blk,ob.fit,ob.len⟩
  have ob2: ∀X,OwB (h1.set (h.length+1) X) 4 st (Qr.reverse++[[.int 18446744073709551615 (nu:Int),.bool bu,.nils,kv],qt]) bs cap e junk y3:=fun X=>⟨ob.val,by rw [ai (by have:=ob.lt;omega)];exact ob1.blk,ob.fit,ob.len⟩
  obtain ⟨Pu,hPu⟩: ∃P,P=AV.pto bs (r.length*4):=⟨_,rfl⟩
  obtain ⟨Pu3,hPu3⟩: ∃P,P=AV.pto bs (r.length*4+3):=⟨_,rfl⟩
  obtain ⟨Pt,hPt⟩: ∃P,P=AV.pto bs ((r.length+1)*4):=⟨_,rfl⟩
  have iu:=elu.idx
  have it:=elt.idx
  have lt_:=elt.ldG
  have lu:=elu.ld1 3 kv rfl
  rw [←hPu] at iu
  rw [←hPt] at it lt_
  rw [←hPu3] at lu
  have mv: ∀(h:AH) (κ:Ka),ao 3 Pu h κ=κ Pu3 h:=fun h κ=>by rw [hPu,hPu3];rfl
  have nk: ∀(h:AH) (κ:Ka),aC Pu h κ=κ Pu h:=fun h κ=>by rw [hPu];rfl
  have hv:AV.plain (.slo (h.length+1) 0 (ku.length+1) (ku.length+1) 4 false)=true:=rfl
  have s1:=(ob1.st1 hr hgu (j:=3) (c:=.slo (h.length+1) 0 (ku.length+1) (ku.length+1) 4 false) (by decide) hv).1
  have s2:=fun X=>((ob2 X).st1 hr hgu (j:=3) (c:=.slo (h.length+1) 0 (ku.length+1) (ku.length+1) 4 false) (by decide) hv).1
  have hset:(Qr.reverse++[[.int 18446744073709551615 (nu:Int),.bool bu,.nils,kv],qt]).set r.length (List.set [.int 18446744073709551615 (nu:Int),.bool bu,.nils,kv] 3 (.slo (h.length+1) 0 (ku.length+1) (ku.length+1) 4 false))=Qr.reverse++[[.int 18446744073709551615 (nu:Int),.bool bu,.nils,.slo (h.length+1) 0 (ku.length+1) (ku.length+1) 4 false],qt]:=by
   rw [←hQr,show Qr.length=Qr.reverse.length by simp]
   show (Qr.reverse++[.int 18446744073709551615 (nu:Int),.bool bu,.nils,kv]::[qt]).set _ _=_
   rw [mA];rfl
  have o9:=(ob2 (some (.cells (rows++[qt]).flatten yk))).st1 hr hgu (j:=3) (c:=.slo (h.length+1) 0 (ku.length+1) (ku.length+1) 4 false) (by decide) hv
  rw [hset] at s1 o9
  rw [←hPu3] at s1
  have s2':=fun X=>s2 X
  simp only [hset] at s2'
  rw [←hPu3] at s2'
  have o9:=o9.2
  have hp1:ae h1 p=some (.cells (rdL K c s stp sl st ct cl) y):=by rw [fr1 p hpl (by rw [R.kp];omega)];exact hp
  have hp':=hp
  unfold rdL at hp'
  have bsl:=ob.lt
  generalize hXs:some (Blk.cells ((Qr.reverse++[[.int 18446744073709551615 (nu:Int),.bool bu,.nils,.slo (h.length+1) 0 (ku.length+1) (ku.length+1) 4 false],qt]).flatten++junk) y3)=Xs at*
  generalize hX:some (Blk.cells (rows++[qt]).flatten yk)=X at*
  have ble1:Nat.ble (aj (h++[some (.cells ZT 0)])) (aj h1)=true:=by rw [bL,ah,ah,a2];simp
  have ble2: ∀(i:Nat) (x:Option Blk) (y:AH),Nat.ble (aj y) (aj (y.set i x))=true:=fun i x y=>by rw [bL,ah,ah];simp
  have ltu:AV.lt (aj (h1.set (h.length+1) X)) Pu=true:=by rw [hPu,gH,ah,decide_eq_true_iff,List.length_set];omega
  have ltu3:AV.lt (aj (h1.set (h.length+1) X)) Pu3=true:=by rw [hPu3,gH,ah,decide_eq_true_iff,List.length_set];omega
  have w1:aZ 9223372036854775807 (((r.length+2:Nat):Int)-1)=((r.length+1:Nat):Int):=by rw [bd (by omega) (by omega)];simp;omega
  have w2:aZ 9223372036854775807 (((r.length+1:Nat):Int)-1)=(r.length:Int):=by rw [bd (by omega) (by omega)];simp
  have o9l:=a7 bs Xs (by omega)
  simp only [sy,List.length_append,Nat.reduceAdd,Nat.reduceMul,Nat.reduceSub,Nat.reduceLeDiff,Nat.reduceEqDiff,Nat.reduceLT,reduceIte,agh,afU,kc2,hp',len3,w1,w2,iu,nk,mv,lu,it,lt_,lenk,adq,a1,ble1,a4,a6,ble2,ltu,ltu3,s2',a5,s1,o9l]
  refine xx _ _ _ _ (List.set_comm _ _ (by omega)) ?_
  have hml:=R.ml
  let kd2:Nat→Nat:=fun i=>if i<h.length then (if kd i=6+(r.length+1) then 6+r.length else kd i) else if i=h.length+1 then 6+r.length else 0
  have k2l: ∀i,i<h.length→kd i≠6+(r.length+1)→kd2 i=kd i:=fun i hi h6=>by
   show (if i<h.length then (if kd i=6+(r.length+1) then 6+r.length else kd i) else _)=_
   rw [if_pos hi,if_neg h6]
  have k2t: ∀i,i<h.length→kd i=6+(r.length+1)→kd2 i=6+r.length:=fun i hi h6=>by
   show (if i<h.length then (if kd i=6+(r.length+1) then 6+r.length else kd i) else _)=_
   rw [if_pos hi,if_pos h6]
  have k2n:kd2 (h.length+1)=6+r.length:=by
   show (if h.length+1<h.length then _ else if h.length+1=h.length+1 then 6+r.length else 0)=_
   rw [if_neg (by omega),if_pos rfl]
  have hX2:(h1.set (h.length+1) X).set bs Xs=(h1.set (h.length+1) X).set bs Xs:=rfl
  have fr: ∀i,i<h.length→i≠bs→kd i≠6+r.length→ae ((h1.set (h.length+1) X).set bs Xs) i=ae h i:=fun i hi hb h6=>by
   rw [ai (Ne.symm hb),ai (by omega),fr1 i hi h6]
  have hp3:ae ((h1.set (h.length+1) X).set bs Xs) p=some (.cells (rdL K c s stp sl st ct cl) y):=by rw [fr p hpl hbp (by rw [R.kp];omega)];exact hp
  have hp3':=hp3
  unfold rdL at hp3'
  have T9:fK ((h1.set (h.length+1) X).set bs Xs) (fun b=>kd2 b=6+r.length) [.int 18446744073709551615 (nu:Int),.bool bu,.nils,.slo (h.length+1) 0 (ku.length+1) (ku.length+1) 4 false] (.nd nu bu [] (ku++[t])):=by
   have mt: ∀b,b<h.length→kd b=6+(r.length+1)→(kd2 b=6+r.length∧b<h.length+1)∧ae ((h1.set (h.length+1) X).set bs Xs) b=ae h b:=fun b hb hk'=>⟨⟨k2t b hb hk',by omega⟩,fr b hb (fun cc=>by rw [cc,hbs'] at hk';omega) (by omega)⟩
   unfold fK
   refine ⟨.nils,_,rfl,.inl ⟨rfl,rfl⟩,.inr ⟨h.length+1,false,rows++[qt],yk,by simp,k2n,by rw [ai (by omega),az (by omega),←hX],?_⟩⟩
   refine cw.app (ok1.mono t mt) (a9.mono ku fun b hb hk'=>⟨⟨by rw [k2l b hk'.2 (by rw [hk'.1];omega)];exact hk'.1,by omega⟩,?_⟩)
   rw [ai (fun cc=>by rw [cc,hk'.1] at hbs';omega),ai (by omega)]
  have h9l:((h1.set (h.length+1) X).set bs Xs).length=h.length+2:=by rw [List.length_set,List.length_set,a2]
  have o9R:OwR ((h1.set (h.length+1) X).set bs Xs) (fun b=>kd2 b=3) 4 st ((qt::[.int 18446744073709551615 (nu:Int),.bool bu,.nils,.slo (h.length+1) 0 (ku.length+1) (ku.length+1) 4 false]::Qr).reverse):=by
   rw [show (qt::[.int 18446744073709551615 (nu:Int),.bool bu,.nils,.slo (h.length+1) 0 (ku.length+1) (ku.length+1) 4 false]::Qr).reverse=Qr.reverse++[[.int 18446744073709551615 (nu:Int),.bool bu,.nils,.slo (h.length+1) 0 (ku.length+1) (ku.length+1) 4 false],qt] by simp]
   refine ⟨fun x hx=>?_,.inr ⟨bs,cap,e,junk,y3,by show kd2 bs=3;rw [k2l bs bsl (by omega)];exact hbs',o9⟩⟩
   rcases List.mem_append.1 hx with hx|hx
   ·exact hr x (List.mem_append_left _ hx)
   ·rcases List.mem_cons.1 hx with rfl|hx
    ·rfl
    ·exact hr x (List.mem_append_right _ (List.mem_cons_of_mem _ hx))
  generalize h1.set (h.length+1) X=h2 at*
  generalize h2.set bs Xs=h3 at*
  obtain ⟨v',c1,c2⟩:=o9R.cut (by decide) (by simp) (m:=r.length+1) (by simp [hQr]) 9223372036854775807
  have htk:((qt::[.int 18446744073709551615 (nu:Int),.bool bu,.nils,.slo (h.length+1) 0 (ku.length+1) (ku.length+1) 4 false]::Qr).reverse).take (r.length+1)=([.int 18446744073709551615 (nu:Int),.bool bu,.nils,.slo (h.length+1) 0 (ku.length+1) (ku.length+1) 4 false]::Qr).reverse:=by
   rw [List.reverse_cons,List.take_append_of_le_length (by simp [hQr]),List.take_of_length_le (by simp [hQr])]
  rw [htk] at c2
  have hp3l:=aO hp3
  simp only [sy,List.length_append,Nat.reduceAdd,Nat.reduceMul,Nat.reduceSub,Nat.reduceLeDiff,Nat.reduceEqDiff,Nat.reduceLT,reduceIte,ahs,hp3',c1,c2.plain,aj2]
  refine Ends.mk ⟨rfl,?_⟩
  have mm: ∀{j:Nat} {Y:Option Blk},j≠1→j≠3→j<6→ ∀b',b'<h.length→kd b'=j→kd2 b'=j∧ae (h3.set p Y) b'=ae h b':=fun h1' h3' h6' b' hb' e=>⟨by rw [k2l _ hb' (by omega)];exact e,by rw [ai (fun cc=>h1' (by rw [←e,←cc];exact R.kp)),fr b' hb' (fun cc=>h3' (by rw [←e,cc];exact hbs')) (by omega)]⟩
  have f0: ∀i,i<h.length→kd i=0→ ∀Y,ae (h3.set p Y) i=ae h i:=fun i hi h0 Y=>by rw [ai (R.iI h0),fr i hi (fun cc=>by rw [cc,hbs'] at h0;cases h0) (by omega)]
  refine ⟨kd2,R.make (stp':=stp) (y':=y) (sl:=sl) (st:=v') (ct:=ct) (cl:=cl) (Q:=[.int 18446744073709551615 (nu:Int),.bool bu,.nils,.slo (h.length+1) 0 (ku.length+1) (ku.length+1) 4 false]::Qr) (by rw [k2l p hpl (by rw [R.kp];omega)];exact R.kp) (fun i hi=>⟨by rw [k2l i (by omega) (by rw [R.lo i hi];omega)];exact R.lo i hi,f0 i (by omega) (R.lo i hi) _⟩) (by rw [List.length_set,h9l];omega) (by
   rw [az hp3l]
   unfold PR.close
   rw [hs];rfl) ?_ ?_ ?_ ?_ ?_,by rw [List.length_set,h9l];omega,fun i hi h0=>⟨f0 i hi h0 _,by rw [k2l i hi (by omega)];exact h0⟩⟩
  ·unfold PR.close
   rw [hs];exact o2.mono (mm (by decide) (by decide) (by decide))
  ·exact c2.mono fun b' hb' hk'=>⟨hk',ai (fun cc=>by rw [←cc,k2l p hpl (by rw [R.kp];omega),R.kp] at hk';cases hk') _⟩
  ·unfold PR.close
   rw [hs]
   refine ⟨T9.mono _ fun b' hb' hk'=>⟨hk',ai (fun cc=>by rw [←cc,k2l p hpl (by rw [R.kp];omega),R.kp] at hk';omega) _⟩,ok3.mono fun b' hb' g1 g2=>⟨k2l b' hb' (by omega),?_⟩⟩
   rw [ai (fun cc=>by rw [←cc,R.kp] at g1;omega),fr b' hb' (fun cc=>by rw [cc,hbs'] at g1;omega) (by omega)]
  ·unfold PR.close
   rw [hs];exact o4.mono (mm (by decide) (by decide) (by decide))
  ·unfold PR.close
   rw [hs];exact o5.mono (mm (by decide) (by decide) (by decide))
theorem qY (R:RS m K kd h p c s) {t0 u:PT} {r:List PT} (hs:s.stack=t0::u::r) (hlen:r.length≤90000) (hkids: ∀n b d ks,u= .nd n b d ks→ks.length≤90000∧d=[]) {nn:Nat} {dv:AV} {dd:List Nat} {b0 n0:Nat}
 (hd:iD h (fun b=>b=b0) dv dd) (hb0:cN kd h.length 0 b0=0) (hmn:m≤n0) (hn0:n0≤b0) (hn1:n0≤h.length) (f:Nat):
 aG (fun x h'=>x= .tup []∧Nx n0 m K kd h p c (s.leaf (.nd nn false dd [])) h') ((rl (CL mx) (f+2)).run 175 [.pto p 0,.agg [.int 18446744073709551615 (nn:Int),.bool false,dv,.nils]] h):=by
 refine aG.runs (n:=f+1) (akD mx _ _ _ _ _) ?_
 have hdp:=hd.at.plain
 generalize hq:[AV.int 18446744073709551615 (nn:Int),.bool false,dv,.nils]=q
 have hql:q.length=4:=by rw [←hq];rfl
 have hqp:aR q=true:=by rw [←hq];show and true (and true (and dv.plain true))=true;rw [hdp];rfl
 have hz:=aI h (some (Blk.cells q (69+1)))
 have R1:=R.grow (h':=h++[some (Blk.cells q (69+1))]) (by simp) (fun i hi=>aq hi _)
 have bx: ∀κ:Ka,gZ (69+1) (.agg q) h κ=κ (.pto h.length 0) (h++[some (Blk.cells q (69+1))]):=fun κ=>by rw [dP];rfl
 have fz: ∀i,i<h.length→ae (h++[some (Blk.cells q (69+1))]) i=ae h i:=fun i hi=>aq hi _
 have hl1:(h++[some (Blk.cells q (69+1))]).length=h.length+1:=by simp
 have hd1:iD (h++[some (Blk.cells q (69+1))]) (fun b=>b=b0) dv dd:=hd.mono fun b hb e=>⟨e,fz b hb⟩
 refine wEq (agU ..) ?_
 refine wEq (bx _) ?_
 generalize hH:h++[some (Blk.cells q (69+1))]=h1 at*
 obtain ⟨stp,y,sl,st,ct,cl,QQ,hp,o2,o3,ok,o4,o5⟩:=R1.ex
 have hp':=hp
 unfold rdL at hp'
 rw [hs] at ok
 obtain ⟨qt,Q1,rfl⟩: ∃q Q,QQ=q::Q:=by
  cases QQ with
  |nil=>exact ok.elim
  |cons q Q=>exact ⟨q,Q,rfl⟩
 obtain ⟨ok1,ok2⟩:=ok
 have hQ1:=ok2.len
 have hrev:(qt::Q1).reverse=Q1.reverse++[qt]:=by simp
 rw [hrev] at o3
 have hrl:(Q1.reverse++[qt]).length=r.length+2:=by simp [hQ1]
 have hgt:(Q1.reverse++[qt])[r.length+1]? =some qt:=by
  have:r.length+1=Q1.reverse.length:=by rw [List.length_reverse,hQ1];rfl
  rw [this];simp
 have len3:=fun (h':AH) (κ:Ka)=>o3.bH h' κ
 rw [hrl] at len3
 obtain ⟨hr,⟨cc,_⟩|⟨bs,cap,e,junk,y3,hbs,ob⟩⟩:=o3
 ·simp at cc
 have hbs':cN kd h.length 0 bs=3:=hbs
 have elt:=ob.el hr hgt
 obtain ⟨Pt,hPt⟩: ∃P,P=AV.pto bs ((r.length+1)*4):=⟨_,rfl⟩
 have it:=elt.idx
 rw [←hPt] at it
 obtain ⟨s1,o9⟩:=ob.stG hr hgt hql hqp
 rw [←hPt] at s1
 have hset:(Q1.reverse++[qt]).set (r.length+1) q=Q1.reverse++[q]:=by
  have:r.length+1=Q1.reverse.length:=by rw [List.length_reverse,hQ1];rfl
  rw [this,mA]
 rw [hset] at s1 o9
 have bsl:=ob.lt
 have w1:aZ 9223372036854775807 (((r.length+2:Nat):Int)-1)=((r.length+1:Nat):Int):=by rw [bd (by omega) (by omega)];simp;omega
 have ldz: ∀κ:Ka,aQ 4 (.pto h.length 0) h1 κ=κ (.agg q) h1:=fun κ=>by
  rw [kT,hz,aT]
  show bq (decide (0+4≤q.length)) (κ (.agg ((q.drop 0).take 4)) h1) none=_
  rw [bf (by omega),List.drop_zero,←hql,List.take_length]
 obtain ⟨pz,hpz⟩: ∃P,P=AV.pto h.length 0:=⟨_,rfl⟩
 rw [←hpz] at ldz ⊢
 have ble2: ∀(i:Nat) (x:Option Blk) (y:AH),Nat.ble (aj y) (aj (y.set i x))=true:=fun i x y=>by rw [bL,ah,ah];simp
 simp only [sy,List.length_append,Nat.reduceAdd,Nat.reduceMul,Nat.reduceSub,Nat.reduceLeDiff,Nat.reduceEqDiff,Nat.reduceLT,reduceIte,agN,agD,hp',len3,w1,ldz,it,s1,ble2]
 let kd2:Nat→Nat:=fun i=>if i=b0 then 6+(r.length+1) else cN kd h.length 0 i
 have k2l: ∀i,cN kd h.length 0 i≠0→kd2 i=cN kd h.length 0 i:=fun i hi=>if_neg (fun cc=>hi (by rw [cc];exact hb0))
 have k2b:kd2 b0=6+(r.length+1):=if_pos rfl
 have k2o: ∀i,i≠b0→kd2 i=cN kd h.length 0 i:=fun i hi=>if_neg hi
 have hpl:=aO hp
 have hbp:bs≠p:=fun cc=>by rw [cc,R1.kp] at hbs';cases hbs'
 have hml:=R.ml
 have fr: ∀i,i≠bs→ ∀X,ae (h1.set bs X) i=ae h1 i:=fun i hi X=>ai (Ne.symm hi) _
 have mm: ∀{j:Nat} {X:Option Blk},j≠0→j≠3→ ∀b',b'<h1.length→cN kd h.length 0 b'=j→kd2 b'=j∧ae (h1.set bs X) b'=ae h1 b':=fun h1' h3' b' hb' e=>⟨by rw [k2l _ (by rw [e];exact h1')];exact e,fr b' (fun cc=>h3' (by rw [←e,cc];exact hbs')) _⟩
 have hbb:b0≠bs:=fun cc=>by rw [cc,hbs'] at hb0;cases hb0
 have R2:RS m K kd2 (h1.set bs (some (.cells ((Q1.reverse++[q]).flatten++junk) y3))) p c {s with stack:=.nd nn false dd []::u::r}:=by
  refine R1.make (stp':=stp) (y':=y) (sl:=sl) (st:=st) (ct:=ct) (cl:=cl) (Q:=q::Q1) (by rw [k2l p (by rw [R1.kp];decide)];exact R1.kp) (fun i hi=>?_) (by rw [List.length_set];exact Nat.le_refl _) (by rw [fr p (Ne.symm hbp)];exact hp) (o2.mono (mm (by decide) (by decide))) ?_ ?_ (o4.mono (mm (by decide) (by decide))) (o5.mono (mm (by decide) (by decide)))
  ·have e0:=R1.lo i hi
   exact ⟨by rw [k2o i (by omega)];exact e0,fr i (fun cc=>by rw [cc,hbs'] at e0;cases e0) _⟩
  ·rw [List.reverse_cons]
   refine ⟨fun x hx=>?_,.inr ⟨bs,cap,e,junk,y3,by show kd2 bs=3;rw [k2l bs (by rw [hbs'];decide)];exact hbs',o9⟩⟩
   rcases List.mem_append.1 hx with hx|hx
   ·exact hr x (List.mem_append_left _ hx)
   ·obtain rfl:x=q:=by simpa using hx
    exact hql
  ·refine ⟨?_,ok2.mono fun b' hb' g1 g2=>⟨k2l b' (by omega),fr b' (fun cc=>by rw [cc,hbs'] at g1;omega) _⟩⟩
   unfold fK
   exact ⟨dv,.nils,hq.symm,hd1.mono fun b hb e=>by subst e;exact ⟨k2b,fr b hbb _⟩,.inl ⟨rfl,rfl⟩⟩
 refine bE (tQ R2 (t:=.nd nn false dd []) (u:=u) (r:=r) rfl hlen hkids f).call ?_
 rintro x h' ⟨rfl,kd',R',l',f'⟩
 rw [List.length_set] at l' f'
 simp only [sy,List.length_append,Nat.reduceAdd,Nat.reduceMul,Nat.reduceSub,Nat.reduceLeDiff,Nat.reduceEqDiff,Nat.reduceLT,reduceIte,alz]
 refine Ends.mk ⟨rfl,kd',?_,by omega,fun i hi h0=>?_⟩
 ·unfold PR.leaf
  rw [hs]
  unfold PR.close at R'
  exact R'
 ·have e0:cN kd h.length 0 i=0:=by rw [bR (by omega)];exact h0
  obtain ⟨e1,e2⟩:=f' i (by omega) (by rw [k2o i (by omega)];exact e0)
  exact ⟨by rw [e1,fr i (fun cc=>by rw [cc,hbs'] at e0;cases e0),fz i (by omega)],e2⟩
end
end Go.Proofs.YteapfopaiocpeaaGreatDoor
