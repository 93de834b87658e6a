/- A reader of package scan: numbers. The functions' code is printed by a program. -/
import Derived.Test.YteapfopaiocpeaaGreatDoorSb
namespace Go.Proofs.YteapfopaiocpeaaGreatDoor
set_option linter.unusedSimpArgs false
set_option linter.unusedVariables false
set_option linter.unnecessarySimpa false
set_option linter.defProp false
noncomputable section
def gT (v0 v1 v4 v5 v6 v11 v23 v46 v62:AV):Tm:=(.nd 6 (.nd 4 (.nd 1 (.lf 0 v0) (.lf 1 v1)) (.nd 5 (.lf 4 v4) (.lf 5 v5))) (.nd 23 (.nd 11 (.lf 6 v6) (.lf 11 v11)) (.nd 46 (.lf 23 v23) (.nd 62 (.lf 46 v46) (.lf 62 v62)))))
def abc (mx:Int):K:=kAt [] (kOf (CL mx) 52)
def aiH (mx:Int):K:=kAt [1,1,1,1,0] (kOf (CL mx) 52)
def akB (mx:Int):K:=kAt [1,1,1,1,1] (kOf (CL mx) 52)
section
set_option maxRecDepth 100000
variable (mx:Int) (run:Run) (lp:Lp) (κn:Kt) (κx:Ex→Kt) (h:AH) (v0 v1 v4 v5 v6 v11 v23 v46 v62:AV)
theorem afQ:kc (CL mx) run lp (abc mx) ⟨gT v0 v1 v4 v5 v6 v11 v23 v46 v62,h⟩ κn κx=az v0 h (fun a0 h=>aj 2 a0 h (fun a1 h=>ao a1 h (fun a2 h=>cmp bP a2 (.int 9223372036854775807 10) h (fun a3 h=>bn a3 (κx .ret ⟨gT v0 v1 (.bool false) (.int 9223372036854775807 20) v6 a3 v23 v46 v62,h⟩) (lE 255 255 Nat.land v1 (.int 255 127) h (fun a4 h=>cvI 18446744073709551615 a4 h (fun a5 h=>az v0 h (fun a6 h=>aj 2 a6 h (fun a7 h=>ao a7 h (fun a8 h=>cmp bP a8 (.int 9223372036854775807 9) h (fun a9 h=>ar a9 true (fun κ=>aN v1 h κ) h (fun a10 h=>ar a9 true (fun κ=>cmp igt a10 (.int 255 1) h κ) h (fun a11 h=>dh a9 a11 (.bool false) h (fun a12 h=>bn a12 (κx .ret ⟨gT v0 v1 (.bool false) (.int 9223372036854775807 20) a5 a3 a12 v46 v62,h⟩) (kc (CL mx) run lp (aiH mx) ⟨gT v0 v1 (.bool false) (.int 9223372036854775807 0) a5 a3 a12 v46 v62,h⟩ (fun s=>kc (CL mx) run lp (akB mx) s κn κx) κx))))))))))))))):=by kernel_rfl
theorem agh:kc (CL mx) run lp (aiH mx) ⟨gT v0 v1 v4 v5 v6 v11 v23 v46 v62,h⟩ κn κx=az v0 h (fun a0 h=>aj 1 a0 h (fun a1 h=>ao a1 h (fun a2 h=>az v0 h (fun a3 h=>aj 2 a3 h (fun a4 h=>ao a4 h (fun a5 h=>arith pV (.int 9223372036854775807 7) a5 h (fun a6 h=>zq 18446744073709551615 64 v6 a6 h (fun a7 h=>lE 18446744073709551615 18446744073709551615 Nat.lor a2 a7 h (fun a8 h=>az v0 h (fun a9 h=>aj 1 a9 h (fun a10 h=>bS a10 a8 h (fun a11 h1=>bq (Nat.ble (ag h) (ag h1)) ((fun h=>κn ⟨gT v0 v1 v4 v5 v6 v11 v23 v46 v62,h⟩) h1) none)))))))))))):=(bV (C:=CL mx) (ops:=opsOf (cAt [1,1,1,1,0] (aD (CL mx) 52))) (ps:=[0,1,4,5,6,11,23,46,62]) (by kernel_rfl) (by kernel_rfl) _ _ _).trans (by kernel_rfl)
theorem ahh:kc (CL mx) run lp (akB mx) ⟨gT v0 v1 v4 v5 v6 v11 v23 v46 v62,h⟩ κn κx=az v0 h (fun a0 h=>aj 2 a0 h (fun a1 h=>ao a1 h (fun a2 h=>arith dX a2 (.int 9223372036854775807 1) h (fun a3 h=>az v0 h (fun a4 h=>aj 2 a4 h (fun a5 h=>bS a5 a3 h (fun a6 h=>cmp ige v1 (.int 255 128) h (fun a7 h=>bn a7 (κx .ret ⟨gT v0 v1 (.bool false) (.int 9223372036854775807 0) v6 v11 v23 a7 v62,h⟩) (az v0 h (fun a8 h=>aj 0 a8 h (fun a9 h=>ao a9 h (fun a10 h=>lD a10 h (fun a11 h=>ar a11 true (fun κ=>aN v1 h κ) h (fun a12 h=>ar a11 true (fun κ=>cmp bP a12 (.int 255 0) h κ) h (fun a13 h=>dh a11 a13 (.bool false) h (fun a14 h=>ar a14 true (fun κ=>aN v0 h κ) h (fun a15 h=>ar a14 true (fun κ=>az a15 h κ) h (fun a16 h=>ar a14 true (fun κ=>aj 2 a16 h κ) h (fun a17 h=>ar a14 true (fun κ=>ao a17 h κ) h (fun a18 h=>ar a14 true (fun κ=>cmp igt a18 (.int 9223372036854775807 1) h κ) h (fun a19 h=>dh a14 a19 (.bool false) h (fun a20 h=>bn a20 (κx .ret ⟨gT v0 v1 (.bool false) (.int 9223372036854775807 21) v6 v11 v23 a7 a20,h⟩) (κx .ret ⟨gT v0 v1 (.bool true) (.int 9223372036854775807 0) v6 v11 v23 a7 a20,h⟩))))))))))))))))))))))):=by kernel_rfl
theorem alX:kcE (CL mx) [.tmp 4,.tmp 5] ⟨gT v0 v1 v4 v5 v6 v11 v23 v46 v62,h⟩=some (.vh (.tup [v4,v5]) h):=(bH _ _ _).trans (by kernel_rfl)
theorem ant:cZ (CL mx) 52=some ⟨abc mx,[0,1,4,5,6,11,23,46,62],63,[.tmp 4,.tmp 5]⟩:=by kernel_rfl
end
theorem ahO (mx:Int) (run:Run) (lp:Lp) (x0 x1:AV) (h:AH):cP (CL mx) run lp 52 [x0,x1] h=vhO (kc (CL mx) run lp (abc mx) ⟨gT x0 x1 .bot .bot .bot .bot .bot .bot .bot,h⟩ (kcE (CL mx) [.tmp 4,.tmp 5]) (kcQ (CL mx) [.tmp 4,.tmp 5])):=(bI (by kernel_rfl) (ant mx) (by kernel_rfl)).trans (by kernel_rfl)
def xU:=And.intro @afQ (And.intro @agh (And.intro @ahh (@alX)))
def xZ (v0 v2:AV):Tm:=(.nd 2 (.lf 0 v0) (.lf 2 v2))
def acn (mx:Int):K:=kAt [] (kOf (CL mx) 53)
section
set_option maxRecDepth 100000
variable (mx:Int) (run:Run) (lp:Lp) (κn:Kt) (κx:Ex→Kt) (h:AH) (v0 v2:AV)
theorem aeY:kc (CL mx) run lp (acn mx) ⟨xZ v0 v2,h⟩ κn κx=az v0 h (fun a0 h=>aj 1 a0 h (fun a1 h=>ao a1 h (fun a2 h=>κx .ret ⟨xZ v0 a2,h⟩))):=by kernel_rfl
theorem akX:kcE (CL mx) [.tmp 2] ⟨xZ v0 v2,h⟩=some (.vh v2 h):=(bH _ _ _).trans (by kernel_rfl)
theorem aoZ:cZ (CL mx) 53=some ⟨acn mx,[0,2],7,[.tmp 2]⟩:=by kernel_rfl
end
theorem ajU (mx:Int) (run:Run) (lp:Lp) (x0:AV) (h:AH):cP (CL mx) run lp 53 [x0] h=vhO (kc (CL mx) run lp (acn mx) ⟨xZ x0 .bot,h⟩ (kcE (CL mx) [.tmp 2]) (kcQ (CL mx) [.tmp 2])):=(bI (by kernel_rfl) (aoZ mx) (by kernel_rfl)).trans (by kernel_rfl)
def arD:=And.intro @aeY (@akX)
def de (v0 v1 v4 v5 v6 v7 v8 v12 v21 v28 v36:AV):Tm:=(.nd 7 (.nd 4 (.nd 1 (.lf 0 v0) (.lf 1 v1)) (.nd 5 (.lf 4 v4) (.nd 6 (.lf 5 v5) (.lf 6 v6)))) (.nd 21 (.nd 8 (.lf 7 v7) (.nd 12 (.lf 8 v8) (.lf 12 v12))) (.nd 28 (.lf 21 v21) (.nd 36 (.lf 28 v28) (.lf 36 v36)))))
def acf (mx:Int):K:=kAt [] (kOf (CL mx) 221)
def aiO (mx:Int):K:=kAt [1,1,0] (kOf (CL mx) 221)
def alD (mx:Int):K:=kAt [1,1,1] (kOf (CL mx) 221)
def acE (mx:Int):K:=kAt [1,1,0,0,0] (kOf (CL mx) 221)
def alE (mx:Int):K:=kAt [1,1,0,0,0,1,0,1,1,1,0] (kOf (CL mx) 221)
def akk (mx:Int):K:=kAt [1,1,0,0,0,1,0,1,1,1,1] (kOf (CL mx) 221)
section
set_option maxRecDepth 100000
variable (mx:Int) (run:Run) (lp:Lp) (κn:Kt) (κx:Ex→Kt) (h:AH) (v0 v1 v4 v5 v6 v7 v8 v12 v21 v28 v36:AV)
theorem agR:kc (CL mx) run lp (acf mx) ⟨de v0 v1 v4 v5 v6 v7 v8 v12 v21 v28 v36,h⟩ κn κx=gD (placeOf (CL mx) [(0,4),(1,40),(2,3)]) [.bool false,.int 18446744073709551615 0,.int 9223372036854775807 0] [(0,v1)] h (fun a0 h=>eH h (.cells [.bool false,.int 18446744073709551615 0,.int 9223372036854775807 0] 150) (fun a1 h=>aL 3 a1 a0 h (fun a2 h=>kc (CL mx) run lp (aiO mx) ⟨de v0 v1 (.int 18446744073709551615 0) a1 v6 v7 v8 v12 v21 v28 v36,h⟩ (fun s=>kc (CL mx) run lp (alD mx) s κn κx) κx))):=by kernel_rfl
theorem ag5:kc (CL mx) run lp (aiO mx) ⟨de v0 v1 v4 v5 v6 v7 v8 v12 v21 v28 v36,h⟩ κn κx=kcR κn (kcO 0 κn κx) (lp (acE mx) ⟨de v0 v1 v4 v5 v6 v7 v8 v12 v21 v28 v36,h⟩):=by kernel_rfl
theorem ahk:kc (CL mx) run lp (alD mx) ⟨de v0 v1 v4 v5 v6 v7 v8 v12 v21 v28 v36,h⟩ κn κx=κx .ret ⟨de v0 v1 (.int 18446744073709551615 0) v5 v6 v7 v8 v12 v21 v28 v36,h⟩:=by kernel_rfl
theorem qj:kc (CL mx) run lp (acE mx) ⟨de v0 v1 v4 v5 v6 v7 v8 v12 v21 v28 v36,h⟩ κn κx=aJ (fun a0 h=>bn a0 (az v0 h (fun a1 h=>aj 11 a1 h (fun a2 h=>ao a2 h (fun a3 h=>aJ (fun a4 h=>aJ (fun a5 h=>lD a5 h (fun a6 h=>bn a6 (κx (.exit 0) ⟨de v0 v1 v4 v5 a4 v7 v8 a0 a6 v28 v36,h⟩) (aJ (fun a7 h=>dm 0 a7 h (fun a8 h=>dm 1 a7 h (fun a9 h=>kc (CL mx) run lp (alE mx) ⟨de v0 v1 v4 v5 a4 a8 a9 a0 a6 v28 v36,h⟩ (fun s=>kc (CL mx) run lp (akk mx) s κn (kcO 1 κn κx)) (kcO 1 κn κx)))) (aE (CL mx) run 52 [v5,a4] h)))) (aE (CL mx) run 112 [v0] h)) (aE (CL mx) run 224 [v0,a3] h))))) (κx (.exit 0) ⟨de v0 v1 v4 v5 v6 v7 v8 a0 v21 v28 v36,h⟩)) (aE (CL mx) run 112 [v0] h):=by kernel_rfl
theorem qR:kc (CL mx) run lp (alE mx) ⟨de v0 v1 v4 v5 v6 v7 v8 v12 v21 v28 v36,h⟩ κn κx=cmp ine v8 (.int 9223372036854775807 0) h (fun a0 h=>bn a0 (az v0 h (fun a1 h=>aj 11 a1 h (fun a2 h=>ao a2 h (fun a3 h=>aJ (fun a4 h=>κn ⟨de v0 v1 v4 v5 v6 v7 v8 v12 v21 a0 v36,h⟩) (aE (CL mx) run 114 [v0,v8,a3] h))))) (κn ⟨de v0 v1 v4 v5 v6 v7 v8 v12 v21 a0 v36,h⟩)):=by kernel_rfl
theorem qg:kc (CL mx) run lp (akk mx) ⟨de v0 v1 v4 v5 v6 v7 v8 v12 v21 v28 v36,h⟩ κn κx=bn v7 (aJ (fun a0 h=>κx .ret ⟨de v0 v1 a0 v5 v6 v7 v8 v12 v21 v28 v7,h⟩) (aE (CL mx) run 53 [v5] h)) (κn ⟨de v0 v1 v4 v5 v6 v7 v8 v12 v21 v28 v7,h⟩):=by kernel_rfl
theorem aaM:kcE (CL mx) [.tmp 4] ⟨de v0 v1 v4 v5 v6 v7 v8 v12 v21 v28 v36,h⟩=some (.vh v4 h):=(bH _ _ _).trans (by kernel_rfl)
theorem aow:cZ (CL mx) 221=some ⟨acf mx,[0,1,4,5,6,7,8,12,21,28,36],38,[.tmp 4]⟩:=by kernel_rfl
end
theorem amT (mx:Int) (run:Run) (lp:Lp) (x0 x1:AV) (h:AH):cP (CL mx) run lp 221 [x0,x1] h=vhO (kc (CL mx) run lp (acf mx) ⟨de x0 x1 .bot .bot .bot .bot .bot .bot .bot .bot .bot,h⟩ (kcE (CL mx) [.tmp 4]) (kcQ (CL mx) [.tmp 4])):=(bI (by kernel_rfl) (aow mx) (by kernel_rfl)).trans (by kernel_rfl)
theorem zT (mx:Int) (p:List Nat):dY (CL mx) (kAt p (kOf (CL mx) 221)):=iq p (iA (CL mx) 221)
def eJ (v0 v1 v4 v5 v6 v7 v14 v15 v16 v22:AV):Tm:=(.nd 7 (.nd 4 (.nd 1 (.lf 0 v0) (.lf 1 v1)) (.nd 5 (.lf 4 v4) (.nd 6 (.lf 5 v5) (.lf 6 v6)))) (.nd 15 (.nd 14 (.lf 7 v7) (.lf 14 v14)) (.nd 16 (.lf 15 v15) (.nd 22 (.lf 16 v16) (.lf 22 v22)))))
def als (mx:Int):K:=kAt [] (kOf (CL mx) 220)
def apW (mx:Int):K:=kAt [1,1,1,0] (kOf (CL mx) 220)
def ap5 (mx:Int):K:=kAt [1,1,1,1] (kOf (CL mx) 220)
def aj1 (mx:Int):K:=kAt [1,1,1,0,1,0,0] (kOf (CL mx) 220)
def apD (mx:Int):K:=kAt [1,1,1,0,1,0,0,1,1,0] (kOf (CL mx) 220)
def ap2 (mx:Int):K:=kAt [1,1,1,0,1,0,0,1,1,1] (kOf (CL mx) 220)
def apG (mx:Int):K:=kAt [1,1,1,0,1,0,0,1,1,0,0,1,1,0] (kOf (CL mx) 220)
def apU (mx:Int):K:=kAt [1,1,1,0,1,0,0,1,1,0,0,1,1,1] (kOf (CL mx) 220)
section
set_option maxRecDepth 100000
variable (mx:Int) (run:Run) (lp:Lp) (κn:Kt) (κx:Ex→Kt) (h:AH) (v0 v1 v4 v5 v6 v7 v14 v15 v16 v22:AV)
theorem ajo:kc (CL mx) run lp (als mx) ⟨eJ v0 v1 v4 v5 v6 v7 v14 v15 v16 v22,h⟩ κn κx=bF v0 h (fun a0 h=>iQ false a0 (.int 9223372036854775807 8) h (fun a1 h=>slS 1 v0 none (some a1) none h (fun a2 h=>kc (CL mx) run lp (apW mx) ⟨eJ a2 v1 (.int 18446744073709551615 0) (.int 18446744073709551615 0) v6 v7 v14 v15 v16 v22,h⟩ (fun s=>kc (CL mx) run lp (ap5 mx) s κn κx) κx))):=by kernel_rfl
theorem alm:kc (CL mx) run lp (apW mx) ⟨eJ v0 v1 v4 v5 v6 v7 v14 v15 v16 v22,h⟩ κn κx=bF v0 h (fun a0 h=>kcR κn (kcO 0 κn κx) (lp (aj1 mx) ⟨eJ v0 v1 v4 v5 v6 v7 a0 (.int 9223372036854775807 0) v16 v22,h⟩)):=by kernel_rfl
theorem aik:kc (CL mx) run lp (ap5 mx) ⟨eJ v0 v1 v4 v5 v6 v7 v14 v15 v16 v22,h⟩ κn κx=κx .ret ⟨eJ v0 v1 v5 v5 v6 v7 v14 v15 v16 v22,h⟩:=by kernel_rfl
theorem uF:kc (CL mx) run lp (aj1 mx) ⟨eJ v0 v1 v4 v5 v6 v7 v14 v15 v16 v22,h⟩ κn κx=cmp ilt v15 v14 h (fun a0 h=>bn a0 (kc (CL mx) run lp (apD mx) ⟨eJ v0 v1 v4 v5 v6 v7 v14 v15 a0 v22,h⟩ (fun s=>kc (CL mx) run lp (ap2 mx) s κn κx) κx) (κx (.exit 0) ⟨eJ v0 v1 v4 v5 v6 v7 v14 v15 a0 v22,h⟩)):=by kernel_rfl
theorem zr:kc (CL mx) run lp (apD mx) ⟨eJ v0 v1 v4 v5 v6 v7 v14 v15 v16 v22,h⟩ κn κx=bL 1 v0 v15 h (fun a0 h=>ao a0 h (fun a1 h=>kc (CL mx) run lp (apG mx) ⟨eJ v0 v1 v4 v5 v15 a1 v14 v15 v16 v22,h⟩ (fun s=>kc (CL mx) run lp (apU mx) s κn (kcO 1 κn κx)) (kcO 1 κn κx))):=by kernel_rfl
theorem zR:kc (CL mx) run lp (ap2 mx) ⟨eJ v0 v1 v4 v5 v6 v7 v14 v15 v16 v22,h⟩ κn κx=arith dX v15 (.int 9223372036854775807 1) h (fun a0 h=>κn ⟨eJ v0 v1 v4 v5 v6 v7 v14 a0 v16 v22,h⟩):=by kernel_rfl
theorem aax:kc (CL mx) run lp (apG mx) ⟨eJ v0 v1 v4 v5 v6 v7 v14 v15 v16 v22,h⟩ κn κx=bn v1 (bF v0 h (fun a0 h=>arith gU a0 (.int 9223372036854775807 1) h (fun a1 h=>arith gU a1 v6 h (fun a2 h=>bL 1 v0 a2 h (fun a3 h=>ao a3 h (fun a4 h=>κn ⟨eJ v0 v1 v4 v5 v6 a4 v14 v15 v16 v1,h⟩)))))) (κn ⟨eJ v0 v1 v4 v5 v6 v7 v14 v15 v16 v1,h⟩):=by kernel_rfl
theorem aaL:kc (CL mx) run lp (apU mx) ⟨eJ v0 v1 v4 v5 v6 v7 v14 v15 v16 v22,h⟩ κn κx=zq 18446744073709551615 64 v5 (.int 18446744073709551615 8) h (fun a0 h=>cvI 18446744073709551615 v7 h (fun a1 h=>lE 18446744073709551615 18446744073709551615 Nat.lor a0 a1 h (fun a2 h=>κn ⟨eJ v0 v1 v4 a2 v6 v7 v14 v15 v16 v22,h⟩))):=by kernel_rfl
theorem aox:kcE (CL mx) [.tmp 4] ⟨eJ v0 v1 v4 v5 v6 v7 v14 v15 v16 v22,h⟩=some (.vh v4 h):=(bH _ _ _).trans (by kernel_rfl)
theorem aqy:cZ (CL mx) 220=some ⟨als mx,[0,1,4,5,6,7,14,15,16,22],38,[.tmp 4]⟩:=by kernel_rfl
end
theorem aop (mx:Int) (run:Run) (lp:Lp) (x0 x1:AV) (h:AH):cP (CL mx) run lp 220 [x0,x1] h=vhO (kc (CL mx) run lp (als mx) ⟨eJ x0 x1 .bot .bot .bot .bot .bot .bot .bot .bot,h⟩ (kcE (CL mx) [.tmp 4]) (kcQ (CL mx) [.tmp 4])):=(bI (by kernel_rfl) (aqy mx) (by kernel_rfl)).trans (by kernel_rfl)
theorem adJ (mx:Int) (p:List Nat):dY (CL mx) (kAt p (kOf (CL mx) 220)):=iq p (iA (CL mx) 220)
def xq (v0 v1 v2 v6:AV):Tm:=(.nd 2 (.nd 1 (.lf 0 v0) (.lf 1 v1)) (.nd 6 (.lf 2 v2) (.lf 6 v6)))
def abJ (mx:Int):K:=kAt [] (kOf (CL mx) 222)
section
set_option maxRecDepth 100000
variable (mx:Int) (run:Run) (lp:Lp) (κn:Kt) (κx:Ex→Kt) (h:AH) (v0 v1 v2 v6:AV)
theorem ahE:kc (CL mx) run lp (abJ mx) ⟨xq v0 v1 v2 v6,h⟩ κn κx=cmp ile v1 v0 h (fun a0 h=>ar a0 true (fun κ=>aN v0 h κ) h (fun a1 h=>ar a0 true (fun κ=>aN v2 h κ) h (fun a2 h=>ar a0 true (fun κ=>cmp ile a1 a2 h κ) h (fun a3 h=>dh a0 a3 (.bool false) h (fun a4 h=>κx .ret ⟨xq v0 v1 v2 a4,h⟩))))):=by kernel_rfl
theorem akZ:kcE (CL mx) [.tmp 6] ⟨xq v0 v1 v2 v6,h⟩=some (.vh v6 h):=(bH _ _ _).trans (by kernel_rfl)
theorem ape:cZ (CL mx) 222=some ⟨abJ mx,[0,1,2,6],15,[.tmp 6]⟩:=by kernel_rfl
end
theorem aih (mx:Int) (run:Run) (lp:Lp) (x0 x1 x2:AV) (h:AH):cP (CL mx) run lp 222 [x0,x1,x2] h=vhO (kc (CL mx) run lp (abJ mx) ⟨xq x0 x1 x2 .bot,h⟩ (kcE (CL mx) [.tmp 6]) (kcQ (CL mx) [.tmp 6])):=(bI (by kernel_rfl) (ape mx) (by kernel_rfl)).trans (by kernel_rfl)
def aa9:=And.intro @ahE (@akZ)
end
section
variable {mx:Int} {m:Nat} {K:RC} {kd:Nat→Nat} {h:AH} {p:Nat} {c:PC} {s:PR}
theorem Nx.trans {n:Nat} {s2 s3:PR} {h2 h3:AH} (hn:n≤h.length) (a: ∀kd2,RS m K kd2 h2 p c s2→(∀i,i<n→kd i=0→kd2 i=0)→Nx n m K kd2 h2 p c s3 h3) (b:Nx n m K kd h p c s2 h2):Nx n m K kd h p c s3 h3:=by
 obtain ⟨kd2,R2,l2,f2⟩:=b
 obtain ⟨kd3,R3,l3,f3⟩:=a kd2 R2 fun i hi h0=>(f2 i hi h0).2
 exact ⟨kd3,R3,Nat.le_trans l2 l3,fun i hi h0=>by
  have e1:=f2 i hi h0
  have e2:=f3 i hi e1.2
  exact ⟨e2.1.trans e1.1,e2.2⟩⟩
theorem Wf.bf (W:Wf c s) (e a:Nat):Wf c (s.bf e a):=by
 unfold PR.bf
 split
 ·exact ⟨W.at_,W.last,W.parts,W.dep,W.stk⟩
 ·exact W
theorem Wf.byte (W:Wf c s):Wf c (s.byte c).2:=by
 unfold PR.byte
 cases e:c.data[s.at_]? with
 |none=>exact W.bf _ _
 |some b=>
  have:=(List.getElem?_eq_some_iff.1 e).1
  exact ⟨this,W.last,W.parts,W.dep,W.stk⟩
theorem amZ (hb: ∀b∈c.data,b<256):(s.byte c).1<256:=by
 unfold PR.byte
 cases e:c.data[s.at_]? with
 |none=>show 0<256;decide
 |some b=>exact hb b (List.mem_of_getElem? e)
theorem afB:(s.byte c).2.last=s.last:=by
 unfold PR.byte
 cases c.data[s.at_]? with
 |none=>show (s.bf 10 c.data.length).last=s.last;unfold PR.bf;split<;>rfl
 |some b=>rfl
theorem ana (c:Nat) (hc:c<256):Nat.land c 127=c%128:=Nat.and_two_pow_sub_one_eq_mod c 7
theorem arw (k:Nat):2^(7*k)=128^k:=by rw [Nat.pow_mul]
theorem ap8 {cnt:Nat} (h:cnt≤9):128^cnt≤9223372036854775808:=by
 have:128^cnt≤128^9:=Nat.pow_le_pow_right (by omega) h
 exact Nat.le_trans this (by decide)
theorem ajq {acc cnt low:Nat} (h9:cnt≤9) (ha:acc<128^cnt) (hl:low<128) (h1:cnt=9→low≤1):
 low*128^cnt≤9223372036854775808*1+9223372036854775807∧Nat.lor acc (low*128^cnt)=acc+low*128^cnt∧acc+low*128^cnt≤18446744073709551615:=by
 have hp:low*128^cnt≤9223372036854775808:=by
  rcases Nat.lt_or_ge cnt 9 with h|h
  ·have:128^cnt≤128^8:=Nat.pow_le_pow_right (by omega) (by omega)
   calc low*128^cnt≤127*128^8:=Nat.mul_le_mul (by omega) this
    _≤_:=by decide
  ·obtain rfl:cnt=9:=by omega
   have:=h1 rfl
   calc low*128^9≤1*128^9:=Nat.mul_le_mul this (Nat.le_refl _)
    _≤_:=by decide
 have h2:=ap8 h9
 refine ⟨by omega,?_,by omega⟩
 have:=Nat.two_pow_add_eq_or_of_lt (b:=acc) (i:=7*cnt) (by rw [arw];exact ha) low
 rw [arw] at this
 show acc|||low*128^cnt=_
 rw [Nat.or_comm,Nat.mul_comm low,←this,Nat.add_comm]
def mtL (acc cnt:Nat):List AV:=[.bool true,.int 18446744073709551615 (acc:Int),.int 9223372036854775807 (cnt:Int)]
theorem ahb {mb y acc cnt b:Nat} (hg:aa h mb=some (.cells (mtL acc cnt) y)) (hc:b<256) (h9:cnt≤9) (ha:acc<128^cnt) (f:Nat):
 aC (fun r h'=>(cnt=9∧1<b∧r= .tup [.bool false,.int 9223372036854775807 20]∧h'=h)∨(¬(cnt=9∧1<b)∧r= .tup [.bool (decide (b<128)),.int 9223372036854775807 0]∧h'=h.set mb (some (.cells (mtL (acc+b%128*128^cnt) (cnt+1)) y))))
  ((rl (CL mx) (f+1)).run 52 [.pto mb 0,.int 255 (b:Int)] h):=by
 refine aC.runs (n:=f) (ahO mx _ _ _ _ _) ?_
 have hm:mb<h.length:=aI hg
 unfold mtL at hg
 have n10:decide ((cnt:Int)=10)=false:=by rw [decide_eq_false_iff_not];omega
 have b1: ∀(h:AH) (κ:Ka),lE 255 255 Nat.land (.int 255 (b:Int)) (.int 255 127) h κ=κ (.int 255 ((b%128:Nat):Int)) h:=fun h κ=>by
  rw [oT,jz (by omega),show toU 255 127=127 from adf (by decide) (by decide),ana b hc,bE (by omega)]
 have w1:aM 18446744073709551615 ((b%128:Nat):Int)=((b%128:Nat):Int):=bE (by omega)
 by_cases h1:cnt=9∧1<b
 ·obtain ⟨e9,h1⟩:=h1
  have d9:decide ((cnt:Int)=9)=true:=by rw [decide_eq_true_iff];omega
  have d1:decide ((1:Int)<(b:Int))=true:=by rw [decide_eq_true_iff];omega
  simp only [sy,Nat.reduceAdd,Nat.reduceMul,Nat.reduceSub,Nat.reduceLeDiff,Nat.reduceEqDiff,Nat.reduceLT,reduceIte,xU,hg,n10,b1,w1,d9,d1]
  exact Ends.mk (.inl ⟨e9,h1,rfl,rfl⟩)
 ·obtain ⟨o1,o2,o3⟩:=ajq (low:=b%128) h9 ha (by omega) (by intro e;omega)
  have w7:aM 9223372036854775807 (7*(cnt:Int))=((7*cnt:Nat):Int):=by rw [aT (by omega) (by omega)];push_cast;rfl
  have s7: ∀(h:AH) (κ:Ka),zq 18446744073709551615 64 (.int 18446744073709551615 ((b%128:Nat):Int)) (.int 9223372036854775807 ((7*cnt:Nat):Int)) h κ=κ (.int 18446744073709551615 ((b%128*128^cnt:Nat):Int)) h:=fun h κ=>by
   rw [aeI _ (by omega) (by omega),show ((7*cnt:Nat):Int).toNat=7*cnt from Int.toNat_natCast _,arw,show ((b%128:Nat):Int)*((128^cnt:Nat):Int)=((b%128*128^cnt:Nat):Int) by push_cast;rfl,bE (by omega)]
  have b2: ∀(h:AH) (κ:Ka),lE 18446744073709551615 18446744073709551615 Nat.lor (.int 18446744073709551615 (acc:Int)) (.int 18446744073709551615 ((b%128*128^cnt:Nat):Int)) h κ=κ (.int 18446744073709551615 ((acc+b%128*128^cnt:Nat):Int)) h:=fun h κ=>by
   rw [oT,jz (by omega),jz (by omega),o2,bE o3]
  have w2:aM 9223372036854775807 ((cnt:Int)+1)=((cnt+1:Nat):Int):=by rw [aT (by omega) (by omega)];push_cast;rfl
  have hg2: ∀X,aa (h.set mb (some X)) mb=some X:=fun X=>ax hm _
  have ble2: ∀(i:Nat) (x:Option Blk) (y:AH),Nat.ble (ag y) (ag (y.set i x))=true:=fun i x y=>by rw [bR,ah,ah];simp
  have c9:decide ((cnt:Int)=9)=decide (cnt=9):=by
   by_cases e:cnt=9
   ·rw [decide_eq_true e,decide_eq_true_iff];omega
   ·rw [decide_eq_false e,decide_eq_false_iff_not];omega
  by_cases hs:b<128
  ·have d128:decide ((128:Int)≤(b:Int))=false:=by rw [decide_eq_false_iff_not];omega
   by_cases h9':cnt=9
   ·have d9:decide ((cnt:Int)=9)=true:=by rw [c9];exact decide_eq_true h9'
    have d1:decide ((1:Int)<(b:Int))=false:=by rw [decide_eq_false_iff_not];omega
    simp only [sy,List.length_append,Nat.reduceAdd,Nat.reduceMul,Nat.reduceSub,Nat.reduceLeDiff,Nat.reduceEqDiff,Nat.reduceLT,reduceIte,xU,hg,n10,b1,w1,d9,d1,hg2,w2,w7,s7,b2,ble2,List.set_set,d128]
    exact Ends.mk (.inr ⟨h1,by rw [decide_eq_true hs],rfl⟩)
   ·have d9:decide ((cnt:Int)=9)=false:=by rw [c9];exact decide_eq_false h9'
    simp only [sy,List.length_append,Nat.reduceAdd,Nat.reduceMul,Nat.reduceSub,Nat.reduceLeDiff,Nat.reduceEqDiff,Nat.reduceLT,reduceIte,xU,hg,n10,b1,w1,d9,hg2,w2,w7,s7,b2,ble2,List.set_set,d128]
    exact Ends.mk (.inr ⟨h1,by rw [decide_eq_true hs],rfl⟩)
  ·have d128:decide ((128:Int)≤(b:Int))=true:=by rw [decide_eq_true_iff];omega
   have d9:decide ((cnt:Int)=9)=false:=by rw [c9];exact decide_eq_false (by omega)
   simp only [sy,List.length_append,Nat.reduceAdd,Nat.reduceMul,Nat.reduceSub,Nat.reduceLeDiff,Nat.reduceEqDiff,Nat.reduceLT,reduceIte,xU,hg,n10,b1,w1,d9,hg2,w2,w7,s7,b2,ble2,List.set_set,d128]
   exact Ends.mk (.inr ⟨h1,by rw [decide_eq_false hs],rfl⟩)
theorem af6 {mb y acc cnt:Nat} (hg:aa h mb=some (.cells (mtL acc cnt) y)) (f:Nat):
 aC (fun r h'=>r= .int 18446744073709551615 (acc:Int)∧h'=h) ((rl (CL mx) (f+1)).run 53 [.pto mb 0] h):=by
 refine aC.runs (n:=f) (ajU mx _ _ _ _) ?_
 unfold mtL at hg
 simp only [sy,List.length_append,Nat.reduceAdd,Nat.reduceMul,Nat.reduceSub,Nat.reduceLeDiff,Nat.reduceEqDiff,Nat.reduceLT,reduceIte,arD,hg]
 exact Ends.mk ⟨rfl,rfl⟩
theorem RS.frn (R:RS m K kd h p c s) {q:Nat} {X:Option Blk} (hm:m≤q) (h0:kd q=0):RS m K kd (h.set q X) p c s:=by
 obtain ⟨stp,y,sl,st,ct,cl,Q,hp,o2,o3,ok,o4,o5⟩:=R.ex
 have f: ∀i,kd i≠0→aa (h.set q X) i=aa h i:=fun i hi=>ae (fun cc=>hi (by rw [←cc];exact h0)) _
 have mm: ∀{j:Nat},j≠0→ ∀b,b<h.length→kd b=j→kd b=j∧aa (h.set q X) b=aa h b:=fun hj b hb e=>⟨e,f b (by rw [e];exact hj)⟩
 exact R.make R.kp (fun i hi=>⟨R.lo i hi,ae (by omega) _⟩) (by rw [List.length_set];exact Nat.le_refl _) (by rw [f p (by rw [R.kp];decide)];exact hp) (o2.mono (mm (by decide))) (o3.mono (mm (by decide))) (ok.mono fun b hb h1 _=>⟨rfl,f b (by omega)⟩) (o4.mono (mm (by decide))) (o5.mono (mm (by decide)))
theorem Nx.pre {n:Nat} {kd2:Nat→Nat} {s3:PR} {h2 h3:AH} (a:h.length≤h2.length∧ ∀i,i<n→kd i=0→aa h2 i=aa h i∧kd2 i=0) (b:Nx n m K kd2 h2 p c s3 h3):Nx n m K kd h p c s3 h3:=by
 obtain ⟨kd3,R3,l3,f3⟩:=b
 exact ⟨kd3,R3,Nat.le_trans a.1 l3,fun i hi h0=>by
  have e1:=a.2 i hi h0
  have e2:=f3 i hi e1.2
  exact ⟨e2.1.trans e1.1,e2.2⟩⟩
theorem alF {Q:Option Rs→Prop} {κn:Kt} {κx:Ex→Kt} {n mb y:Nat} (v1 v4:AV) (hmn:m≤n) (hnm:n≤mb): ∀(k f:Nat) (kd:Nat→Nat) (h:AH) (s:PR) (acc cnt:Nat) (v6 v7 v8 v12 v21 v28 v36:AV),cnt+k=12→cnt≤9→acc<128^cnt→k+10≤f→n≤h.length→RS m K kd h p c s→Wf c s→aa h mb=some (.cells (mtL acc cnt) y)→kd mb=0→
 (∀h' v6 v7 v8 v12 v21 v28 v36,Nx n m K kd h p c (s.cq c true k acc cnt).2 h'→(s.cq c true k acc cnt).1=0→Q (κx (.exit 0) ⟨de (.pto p 0) v1 v4 (.pto mb 0) v6 v7 v8 v12 v21 v28 v36,h'⟩))→
 (∀h' v6 v7 v8 v12 v21 v28 v36,Nx n m K kd h p c (s.cq c true k acc cnt).2 h'→Q (κx .ret ⟨de (.pto p 0) v1 (.int 18446744073709551615 ((s.cq c true k acc cnt).1:Int)) (.pto mb 0) v6 v7 v8 v12 v21 v28 v36,h'⟩))→
 Q (kcR κn κx ((rl (CL mx) f).lp (acE mx) ⟨de (.pto p 0) v1 v4 (.pto mb 0) v6 v7 v8 v12 v21 v28 v36,h⟩)):=by
 intro k
 induction k with
 |zero=>intro f kd h s acc cnt v6 v7 v8 v12 v21 v28 v36 hk h9;omega
 |succ k ih=>
  intro f kd h s acc cnt v6 v7 v8 v12 v21 v28 v36 hk h9 hacc hf hnl R W hg hm0 hE hR
  obtain ⟨f,rfl⟩: ∃q,f=(q+9)+1:=⟨f-10,by omega⟩
  have okc:=ec (mx:=mx) R (f+8)
  refine fm (zT mx _) ?_
  unfold PR.cq at hE hR
  by_cases hc0:s.code≠0
  ·rw [if_pos hc0] at hE hR
   simp only [sy,List.length_append,Nat.reduceAdd,Nat.reduceMul,Nat.reduceSub,Nat.reduceLeDiff,Nat.reduceEqDiff,Nat.reduceLT,reduceIte,qj,okc,decide_eq_false hc0]
   exact hE _ _ _ _ _ _ _ _ ⟨kd,R,Nat.le_refl _,fun i _ h0=>⟨rfl,h0⟩⟩ rfl
  rw [if_neg hc0] at hE hR
  have hc0':s.code=0:=by omega
  obtain ⟨stp,yy,sl,st,ct,cl,QQ,hp,_⟩:=R.ex
  unfold rdL at hp
  simp only [sy,List.length_append,Nat.reduceAdd,Nat.reduceMul,Nat.reduceSub,Nat.reduceLeDiff,Nat.reduceEqDiff,Nat.reduceLT,reduceIte,qj,okc,decide_eq_true hc0',hp,n64]
  refine bG (vZ R W (a:=s.last) (f+6)).call ?_
  rintro r h1 ⟨rfl,nx1⟩
  have W1:=W.byte
  have hb256:=amZ (s:=s) R.byt
  have hlast:=afB (c:=c) (s:=s)
  obtain ⟨kd1,R1,l1,f1⟩:=nx1
  have hgl:=aI hg
  have hg1:aa h1 mb=some (.cells (mtL acc cnt) y):=by rw [(f1 mb hgl hm0).1];exact hg
  have hm1:kd1 mb=0:=(f1 mb hgl hm0).2
  have okc1:=ec (mx:=mx) R1 (f+8)
  have nx1:Nx n m K kd h p c (s.byte c).2 h1:=⟨kd1,R1,l1,fun i hi h0=>f1 i (by omega) h0⟩
  by_cases hc1:(s.byte c).2.code≠0
  ·rw [if_pos hc1] at hE hR
   simp only [sy,List.length_append,Nat.reduceAdd,Nat.reduceMul,Nat.reduceSub,Nat.reduceLeDiff,Nat.reduceEqDiff,Nat.reduceLT,reduceIte,okc1,decide_eq_false hc1]
   exact hE _ _ _ _ _ _ _ _ nx1 rfl
  rw [if_neg hc1] at hE hR
  have hc1':(s.byte c).2.code=0:=by omega
  simp only [sy,List.length_append,Nat.reduceAdd,Nat.reduceMul,Nat.reduceSub,Nat.reduceLeDiff,Nat.reduceEqDiff,Nat.reduceLT,reduceIte,okc1,decide_eq_true hc1']
  refine bG (ahb hg1 hb256 h9 hacc (f+8)).call ?_
  rintro r h2 (⟨e9,hb1,rfl,rfl⟩|⟨hn9,rfl,rfl⟩)
  ·rw [if_pos ⟨e9,hb1⟩] at hE hR
   obtain ⟨stp1,y1,sl1,st1,ct1,cl1,QQ1,hp1,_⟩:=R1.ex
   unfold rdL at hp1
   have g20:decide ((20:Int)≠0)=true:=by decide
   simp only [sy,List.length_append,Nat.reduceAdd,Nat.reduceMul,Nat.reduceSub,Nat.reduceLeDiff,Nat.reduceEqDiff,Nat.reduceLT,reduceIte,qR,qg,hp1,n64,g20]
   rw [hlast]
   have w20:=eI (mx:=mx) R1 20 s.last (f+8)
   refine bG (aC.call w20) ?_
   rintro r h3 ⟨rfl,R3,n3,f3⟩
   have nx3:Nx n m K kd h p c ((s.byte c).2.bf 20 s.last) h3:=⟨kd1,R3,by omega,fun i hi h0=>by
    have e1:=f1 i (by omega) h0
    exact ⟨by rw [f3 i (by rw [e1.2];decide)];exact e1.1,e1.2⟩⟩
   have hcw:((s.byte c).2.bf 20 s.last).code≠0:=by unfold PR.bf;rw [if_pos hc1'];exact (by decide:(20:Nat)≠0)
   have okc3:=ec (mx:=mx) R3 (f+7)
   refine fm (n:=f+8) (zT mx _) ?_
   simp only [sy,List.length_append,Nat.reduceAdd,Nat.reduceMul,Nat.reduceSub,Nat.reduceLeDiff,Nat.reduceEqDiff,Nat.reduceLT,reduceIte,qj,okc3,decide_eq_false hcw]
   exact hE _ _ _ _ _ _ _ _ nx3 rfl
  ·rw [if_neg hn9] at hE hR
   have R2:=R1.frn (q:=mb) (X:=some (.cells (mtL (acc+(s.byte c).1%128*128^cnt) (cnt+1)) y)) (by omega) hm1
   have fx:h.length≤(h1.set mb (some (.cells (mtL (acc+(s.byte c).1%128*128^cnt) (cnt+1)) y))).length∧ ∀i,i<n→kd i=0→aa (h1.set mb (some (.cells (mtL (acc+(s.byte c).1%128*128^cnt) (cnt+1)) y))) i=aa h i∧kd1 i=0:=⟨by rw [List.length_set];exact l1,fun i hi h0=>by
    have e1:=f1 i (by omega) h0
    exact ⟨by rw [ae (by omega)];exact e1.1,e1.2⟩⟩
   have hg2:aa (h1.set mb (some (.cells (mtL (acc+(s.byte c).1%128*128^cnt) (cnt+1)) y))) mb=some (.cells (mtL (acc+(s.byte c).1%128*128^cnt) (cnt+1)) y):=ax (by omega) _
   have g0:decide ((0:Int)≠0)=false:=by decide
   have hl2:(h1.set mb (some (.cells (mtL (acc+(s.byte c).1%128*128^cnt) (cnt+1)) y))).length=h1.length:=List.length_set
   generalize h1.set mb (some (.cells (mtL (acc+(s.byte c).1%128*128^cnt) (cnt+1)) y))=h2 at*
   by_cases h128:128≤(s.byte c).1
   ·rw [if_pos h128] at hE hR
    simp only [sy,List.length_append,Nat.reduceAdd,Nat.reduceMul,Nat.reduceSub,Nat.reduceLeDiff,Nat.reduceEqDiff,Nat.reduceLT,reduceIte,qR,qg,g0,decide_eq_false (show ¬(s.byte c).1<128 by omega)]
    have hlt:(s.byte c).1%128*128^cnt+acc<128^(cnt+1):=by
     rw [Nat.pow_succ]
     have:(s.byte c).1%128*128^cnt+128^cnt≤128*128^cnt:=by
      rw [←Nat.succ_mul];exact Nat.mul_le_mul_right _ (by omega)
     omega
    refine ih (f+9) kd1 h2 (s.byte c).2 _ (cnt+1) _ _ _ _ _ _ _ (by omega) (by omega) (by omega) (by omega) (by omega) R2 W1 hg2 hm1 (fun h' v6 v7 v8 v12 v21 v28 v36 nx e=>?_) (fun h' v6 v7 v8 v12 v21 v28 v36 nx=>?_)
    ·exact hE _ _ _ _ _ _ _ _ (Nx.pre fx nx) e
    ·exact hR _ _ _ _ _ _ _ _ (Nx.pre fx nx)
   ·rw [if_neg h128,if_neg (by simp)] at hE hR
    simp only [sy,List.length_append,Nat.reduceAdd,Nat.reduceMul,Nat.reduceSub,Nat.reduceLeDiff,Nat.reduceEqDiff,Nat.reduceLT,reduceIte,qR,qg,g0,decide_eq_true (show (s.byte c).1<128 by omega)]
    refine bG (af6 hg2 (f+8)).call ?_
    rintro r h3 ⟨rfl,rfl⟩
    exact hR _ _ _ _ _ _ _ _ ⟨kd1,R2,fx.1,fx.2⟩
theorem ahv (R:RS m K kd h p c s) (W:Wf c s) (f:Nat):aC (fun r h'=>r= .int 18446744073709551615 ((s.cq c true 12 0 0).1:Int)∧Nx h.length m K kd h p c (s.cq c true 12 0 0).2 h') ((rl (CL mx) (f+31)).run 221 [.pto p 0,.bool true] h):=by
 refine aC.runs (n:=f+30) (amT mx _ _ _ _ _) ?_
 refine wEq (agR ..) ?_
 refine wEq (dI (cs:=mtL 0 0) (by kernel_rfl)) ?_
 rw [eX]
 refine wEq (cT rfl rfl rfl) ?_
 have R1:=R.grow (h':=h++[some (Blk.cells (mtL 0 0) (149+1))]) (by simp) (fun i hi=>ak hi _)
 have hz:=aH h (some (Blk.cells (mtL 0 0) (149+1)))
 have k0:cK kd h.length 0 h.length=0:=fJ (Nat.le_refl _)
 simp only [sy,Nat.reduceAdd,Nat.reduceMul,Nat.reduceSub,Nat.reduceLeDiff,Nat.reduceEqDiff,Nat.reduceLT,reduceIte,ag5]
 have fin: ∀{s':PR} {h':AH},Nx h.length m K (cK kd h.length 0) (h++[some (Blk.cells (mtL 0 0) (149+1))]) p c s' h'→Nx h.length m K kd h p c s' h':=fun nx=>Nx.pre ⟨by simp,fun i hi h0=>⟨ak hi _,by rw [bQ hi];exact h0⟩⟩ nx
 refine alF (n:=h.length) (mb:=h.length) (.bool true) (.int 18446744073709551615 0) R.ml (Nat.le_refl _) 12 (f+30) _ _ s 0 0 _ _ _ _ _ _ _ (by omega) (by omega) (by decide) (by omega) (by simp) R1 W hz k0 (fun h' v6 v7 v8 v12 v21 v28 v36 nx e=>?_) (fun h' v6 v7 v8 v12 v21 v28 v36 nx=>?_)
 ·simp only [sy,List.length_append,Nat.reduceAdd,Nat.reduceMul,Nat.reduceSub,Nat.reduceLeDiff,Nat.reduceEqDiff,Nat.reduceLT,reduceIte,ahk,aaM]
  exact Ends.mk ⟨by rw [e];rfl,fin nx⟩
 ·simp only [sy,List.length_append,Nat.reduceAdd,Nat.reduceMul,Nat.reduceSub,Nat.reduceLeDiff,Nat.reduceEqDiff,Nat.reduceLT,reduceIte,aaM]
  exact Ends.mk ⟨rfl,fin nx⟩
theorem agf (n a b:Nat) (f:Nat):aC (fun r h'=>r= .bool (decide (a≤n∧n≤b))∧h'=h) ((rl (CL mx) (f+1)).run 222 [.int 18446744073709551615 (n:Int),.int 18446744073709551615 (a:Int),.int 18446744073709551615 (b:Int)] h):=by
 refine aC.runs (n:=f) (aih mx _ _ _ _ _ _) ?_
 by_cases h1:a≤n
 ·have g1:decide ((a:Int)≤(n:Int))=true:=by rw [decide_eq_true_iff];omega
  by_cases h2:n≤b
  ·have g2:decide ((n:Int)≤(b:Int))=true:=by rw [decide_eq_true_iff];omega
   simp only [sy,List.length_append,Nat.reduceAdd,Nat.reduceMul,Nat.reduceSub,Nat.reduceLeDiff,Nat.reduceEqDiff,Nat.reduceLT,reduceIte,aa9,g1,g2]
   exact Ends.mk ⟨by rw [decide_eq_true (And.intro h1 h2)],rfl⟩
  ·have g2:decide ((n:Int)≤(b:Int))=false:=by rw [decide_eq_false_iff_not];omega
   simp only [sy,List.length_append,Nat.reduceAdd,Nat.reduceMul,Nat.reduceSub,Nat.reduceLeDiff,Nat.reduceEqDiff,Nat.reduceLT,reduceIte,aa9,g1,g2]
   exact Ends.mk ⟨by rw [decide_eq_false (fun cc=>h2 cc.2)],rfl⟩
 ·have g1:decide ((a:Int)≤(n:Int))=false:=by rw [decide_eq_false_iff_not];omega
  simp only [sy,List.length_append,Nat.reduceAdd,Nat.reduceMul,Nat.reduceSub,Nat.reduceLeDiff,Nat.reduceEqDiff,Nat.reduceLT,reduceIte,aa9,g1]
  exact Ends.mk ⟨by rw [decide_eq_false (fun cc=>h1 cc.1)],rfl⟩
end
end Go.Proofs.YteapfopaiocpeaaGreatDoor
