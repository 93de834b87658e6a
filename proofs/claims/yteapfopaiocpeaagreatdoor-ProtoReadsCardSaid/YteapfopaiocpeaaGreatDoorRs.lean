/- The records that bytes are, by the law's own function: its run. The function's code is printed by a program. -/
import Derived.Test.YteapfopaiocpeaaGreatDoorRr
namespace Go.Proofs.YteapfopaiocpeaaGreatDoor
set_option linter.unusedSimpArgs false
set_option linter.unusedVariables false
set_option linter.unnecessarySimpa false
set_option linter.defProp false
noncomputable section
def aX (v0 v2 v3 v4 v5 v6 v7 v8 v9 v10 v11 v12 v13 v14 v15 v16 v19 v35 v47 v48 v57 v63 v68 v72 v76 v92 v110:AV):Tm:=(.nd 14 (.nd 7 (.nd 4 (.nd 2 (.lf 0 v0) (.nd 3 (.lf 2 v2) (.lf 3 v3))) (.nd 5 (.lf 4 v4) (.nd 6 (.lf 5 v5) (.lf 6 v6)))) (.nd 10 (.nd 8 (.lf 7 v7) (.nd 9 (.lf 8 v8) (.lf 9 v9))) (.nd 12 (.nd 11 (.lf 10 v10) (.lf 11 v11)) (.nd 13 (.lf 12 v12) (.lf 13 v13))))) (.nd 57 (.nd 19 (.nd 15 (.lf 14 v14) (.nd 16 (.lf 15 v15) (.lf 16 v16))) (.nd 47 (.nd 35 (.lf 19 v19) (.lf 35 v35)) (.nd 48 (.lf 47 v47) (.lf 48 v48)))) (.nd 72 (.nd 63 (.lf 57 v57) (.nd 68 (.lf 63 v63) (.lf 68 v68))) (.nd 92 (.nd 76 (.lf 72 v72) (.lf 76 v76)) (.nd 110 (.lf 92 v92) (.lf 110 v110))))))
def abm (mx:Int):K:=kAt [] (kOf (CL mx) 9)
def ams (mx:Int):K:=kAt [1,1,0] (kOf (CL mx) 9)
def aiW (mx:Int):K:=kAt [1,1,1] (kOf (CL mx) 9)
def jG (mx:Int):K:=kAt [1,1,0,0,0] (kOf (CL mx) 9)
def akE (mx:Int):K:=kAt [1,1,0,0,0,1,0,1,1,1,1,0] (kOf (CL mx) 9)
def ux (mx:Int):K:=kAt [1,1,0,0,0,1,0,1,1,1,1,1] (kOf (CL mx) 9)
def akW (mx:Int):K:=kAt [1,1,0,0,0,1,0,1,1,1,1,0,1,0,1,0,1,1] (kOf (CL mx) 9)
def amH (mx:Int):K:=kAt [1,1,0,0,0,1,0,1,1,1,1,0,1,0,1,1,0] (kOf (CL mx) 9)
def ame (mx:Int):K:=kAt [1,1,0,0,0,1,0,1,1,1,1,0,1,0,1,1,1] (kOf (CL mx) 9)
def ajc (mx:Int):K:=kAt [1,1,0,0,0,1,0,1,1,1,1,0,1,0,1,1,1,0,1,0] (kOf (CL mx) 9)
def xA (mx:Int):K:=kAt [1,1,0,0,0,1,0,1,1,1,1,0,1,0,1,1,1,0,1,1] (kOf (CL mx) 9)
def adI (mx:Int):K:=kAt [1,1,0,0,0,1,0,1,1,1,1,0,1,0,1,1,1,1,1,0,1,1] (kOf (CL mx) 9)
def aev (mx:Int):K:=kAt [1,1,0,0,0,1,0,1,1,1,1,0,1,0,1,1,1,0,1,1,1,0] (kOf (CL mx) 9)
def adW (mx:Int):K:=kAt [1,1,0,0,0,1,0,1,1,1,1,0,1,0,1,1,1,0,1,1,1,1] (kOf (CL mx) 9)
def yp (mx:Int):K:=kAt [1,1,0,0,0,1,0,1,1,1,1,0,1,0,1,1,1,0,1,1,1,0,1,0,0] (kOf (CL mx) 9)
def aeK (mx:Int):K:=kAt [1,1,0,0,0,1,0,1,1,1,1,0,1,0,1,1,1,0,1,1,1,0,1,0,0,1,0] (kOf (CL mx) 9)
def aeN (mx:Int):K:=kAt [1,1,0,0,0,1,0,1,1,1,1,0,1,0,1,1,1,0,1,1,1,0,1,0,0,1,1] (kOf (CL mx) 9)
def ad6 (mx:Int):K:=kAt [1,1,0,0,0,1,0,1,1,1,1,0,1,0,1,1,1,0,1,1,1,0,1,0,0,1,0,0] (kOf (CL mx) 9)
section
set_option maxRecDepth 100000
variable (mx:Int) (run:Run) (lp:Lp) (κn:Kt) (κx:Ex→Kt) (h:AH) (v0 v2 v3 v4 v5 v6 v7 v8 v9 v10 v11 v12 v13 v14 v15 v16 v19 v35 v47 v48 v57 v63 v68 v72 v76 v92 v110:AV)
theorem ahx:kc (CL mx) run lp (abm mx) ⟨aX v0 v2 v3 v4 v5 v6 v7 v8 v9 v10 v11 v12 v13 v14 v15 v16 v19 v35 v47 v48 v57 v63 v68 v72 v76 v92 v110,h⟩ κn κx=kc (CL mx) run lp (ams mx) ⟨aX v0 (.nils) (.bool false) (.nils) v5 v6 v7 v8 v9 v10 v11 v12 v13 v14 v15 v16 v19 v35 v47 v48 v57 v63 v68 v72 v76 v92 v110,h⟩ (fun s=>kc (CL mx) run lp (aiW mx) s κn κx) κx:=by kernel_rfl
theorem afM:kc (CL mx) run lp (ams mx) ⟨aX v0 v2 v3 v4 v5 v6 v7 v8 v9 v10 v11 v12 v13 v14 v15 v16 v19 v35 v47 v48 v57 v63 v68 v72 v76 v92 v110,h⟩ κn κx=kcR κn (kcO 0 κn κx) (lp (jG mx) ⟨aX v0 v2 v3 v4 v5 v6 v7 v8 v9 v10 v11 v12 v13 v14 v15 v16 v19 v35 v47 v48 v57 v63 v68 v72 v76 v92 v110,h⟩):=by kernel_rfl
theorem afd:kc (CL mx) run lp (aiW mx) ⟨aX v0 v2 v3 v4 v5 v6 v7 v8 v9 v10 v11 v12 v13 v14 v15 v16 v19 v35 v47 v48 v57 v63 v68 v72 v76 v92 v110,h⟩ κn κx=κx .ret ⟨aX v0 v4 (.bool true) v4 v5 v6 v7 v8 v9 v10 v11 v12 v13 v14 v15 v16 v19 v35 v47 v48 v57 v63 v68 v72 v76 v92 v110,h⟩:=by kernel_rfl
theorem vo:kc (CL mx) run lp (jG mx) ⟨aX v0 v2 v3 v4 v5 v6 v7 v8 v9 v10 v11 v12 v13 v14 v15 v16 v19 v35 v47 v48 v57 v63 v68 v72 v76 v92 v110,h⟩ κn κx=bF v0 h (fun a0 h=>cmp igt a0 (.int 9223372036854775807 0) h (fun a1 h=>bn a1 (aJ (fun a2 h=>dm 0 a2 h (fun a3 h=>dm 1 a2 h (fun a4 h=>dm 2 a2 h (fun a5 h=>lD a5 h (fun a6 h=>ar a6 false (fun κ=>aN a3 h κ) h (fun a7 h=>ar a6 false (fun κ=>cmp ilt a7 (.int 18446744073709551615 8) h κ) h (fun a8 h=>dh a6 (.bool true) a8 h (fun a9 h=>ar a9 false (fun κ=>aN a3 h κ) h (fun a10 h=>ar a9 false (fun κ=>cmp igt a10 (.int 18446744073709551615 4294967295) h κ) h (fun a11 h=>dh a9 (.bool true) a11 h (fun a12 h=>bn a12 (κx .ret ⟨aX v0 (.nils) (.bool false) v4 a3 a4 a5 v8 v9 v10 v11 v12 v13 v14 v15 v16 a1 a12 v47 v48 v57 v63 v68 v72 v76 v92 v110,h⟩) (slS 1 v0 (some a4) none none h (fun a13 h=>ajC a3 (.int 18446744073709551615 8) h (fun a14 h=>cvI 9223372036854775807 a14 h (fun a15 h=>ac4 a3 (.int 18446744073709551615 8) h (fun a16 h=>cvI 9223372036854775807 a16 h (fun a17 h=>gD (placeOf (CL mx) [(0,3),(1,3),(2,40),(3,22)]) [.int 9223372036854775807 0,.int 9223372036854775807 0,.int 18446744073709551615 0,.nils] [(0,a15),(1,a17)] h (fun a18 h=>eH h (.cells [.int 9223372036854775807 0,.int 9223372036854775807 0,.int 18446744073709551615 0,.nils] 43) (fun a19 h=>aL 4 a19 a18 h (fun a20 h=>kc (CL mx) run lp (akE mx) ⟨aX a13 v2 v3 v4 a3 a4 a5 a19 v9 v10 v11 v12 v13 v14 v15 v16 a1 a12 v47 v48 v57 v63 v68 v72 v76 v92 v110,h⟩ (fun s=>kc (CL mx) run lp (ux mx) s κn (kcO 1 κn κx)) (kcO 1 κn κx))))))))))))))))))))) (aE (CL mx) run 25 [v0] h)) (κx (.exit 0) ⟨aX v0 v2 v3 v4 v5 v6 v7 v8 v9 v10 v11 v12 v13 v14 v15 v16 a1 v35 v47 v48 v57 v63 v68 v72 v76 v92 v110,h⟩))):=by kernel_rfl
theorem ahj:kc (CL mx) run lp (akE mx) ⟨aX v0 v2 v3 v4 v5 v6 v7 v8 v9 v10 v11 v12 v13 v14 v15 v16 v19 v35 v47 v48 v57 v63 v68 v72 v76 v92 v110,h⟩ κn κx=aj 1 v8 h (fun a0 h=>ao a0 h (fun a1 h=>cmp bP a1 (.int 9223372036854775807 0) h (fun a2 h=>bn a2 (aJ (fun a3 h=>dm 0 a3 h (fun a4 h=>dm 1 a3 h (fun a5 h=>dm 2 a3 h (fun a6 h=>lD a6 h (fun a7 h=>bn a7 (κx .ret ⟨aX v0 (.nils) (.bool false) v4 v5 v6 v7 v8 a4 a5 a6 v12 v13 v14 v15 v16 v19 v35 a1 a2 a7 v63 v68 v72 v76 v92 v110,h⟩) (kc (CL mx) run lp (akW mx) ⟨aX v0 v2 v3 v4 v5 v6 v7 v8 a4 a5 a6 v12 v13 v14 v15 v16 v19 v35 a1 a2 a7 v63 v68 v72 v76 v92 v110,h⟩ κn (kcO 2 κn κx))))))) (aE (CL mx) run 25 [v0] h)) (kc (CL mx) run lp (amH mx) ⟨aX v0 v2 v3 v4 v5 v6 v7 v8 v9 v10 v11 v12 v13 v14 v15 v16 v19 v35 a1 a2 v57 v63 v68 v72 v76 v92 v110,h⟩ (fun s=>kc (CL mx) run lp (ame mx) s κn (kcO 2 κn κx)) (kcO 2 κn κx))))):=by kernel_rfl
theorem ae6:kc (CL mx) run lp (ux mx) ⟨aX v0 v2 v3 v4 v5 v6 v7 v8 v9 v10 v11 v12 v13 v14 v15 v16 v19 v35 v47 v48 v57 v63 v68 v72 v76 v92 v110,h⟩ κn κx=aO 4 v8 h (fun a0 h=>jf 4 1 [.int 9223372036854775807 0,.int 9223372036854775807 0,.int 18446744073709551615 0,.nils] [(0,a0)] h (fun a1 h=>ij 43 4 48 v4 a1 h (fun a2 h=>κn ⟨aX v0 v2 v3 a2 v5 v6 v7 v8 v9 v10 v11 v12 v13 v14 v15 v16 v19 v35 v47 v48 v57 v63 v68 v72 v76 v92 v110,h⟩))):=by kernel_rfl
theorem aeW:kc (CL mx) run lp (akW mx) ⟨aX v0 v2 v3 v4 v5 v6 v7 v8 v9 v10 v11 v12 v13 v14 v15 v16 v19 v35 v47 v48 v57 v63 v68 v72 v76 v92 v110,h⟩ κn κx=aN v0 h (fun a0 h1=>bq (AV.lt (ag h) a0) ((fun h=>aN v10 h (fun a1 h1=>bq (AV.lt (ag h) a1) ((fun h=>slS 1 a0 (some a1) none none h (fun a2 h1=>bq (AV.lt (ag h) a2) ((fun h=>aj 2 v8 h (fun a3 h=>bS a3 v9 h (fun a4 h1=>bq (Nat.ble (ag h) (ag h1)) ((fun h=>κn ⟨aX a2 v2 v3 v4 v5 v6 v7 v8 v9 v10 v11 v12 v13 v14 v15 v16 v19 v35 v47 v48 v57 v63 v68 v72 v76 v92 v110,h⟩) h1) none))) h1) none)) h1) none)) h1) none):=(bV (C:=CL mx) (ops:=opsOf (cAt [1,1,0,0,0,1,0,1,1,1,1,0,1,0,1,0,1,1] (aD (CL mx) 9))) (ps:=[0,2,3,4,5,6,7,8,9,10,11,12,13,14,15,16,19,35,47,48,57,63,68,72,76,92,110]) (by kernel_rfl) (by kernel_rfl) _ _ _).trans (by kernel_rfl)
theorem agA:kc (CL mx) run lp (amH mx) ⟨aX v0 v2 v3 v4 v5 v6 v7 v8 v9 v10 v11 v12 v13 v14 v15 v16 v19 v35 v47 v48 v57 v63 v68 v72 v76 v92 v110,h⟩ κn κx=cmp bP v47 (.int 9223372036854775807 1) h (fun a0 h=>bn a0 (κn ⟨aX v0 v2 v3 v4 v5 v6 v7 v8 v9 v10 v11 v12 v13 v14 v15 v16 v19 v35 v47 v48 v57 a0 v68 v72 v76 v92 v110,h⟩) (cmp bP v47 (.int 9223372036854775807 5) h (fun a1 h=>κn ⟨aX v0 v2 v3 v4 v5 v6 v7 v8 v9 v10 v11 v12 v13 v14 v15 v16 v19 v35 v47 v48 v57 a1 v68 v72 v76 v92 v110,h⟩))):=by kernel_rfl
theorem np:kc (CL mx) run lp (ame mx) ⟨aX v0 v2 v3 v4 v5 v6 v7 v8 v9 v10 v11 v12 v13 v14 v15 v16 v19 v35 v47 v48 v57 v63 v68 v72 v76 v92 v110,h⟩ κn κx=bn v63 (kc (CL mx) run lp (ajc mx) ⟨aX v0 v2 v3 v4 v5 v6 v7 v8 v9 v10 v11 (.int 9223372036854775807 8) v13 v14 v15 v16 v19 v35 v47 v48 v57 v63 v68 v72 v76 v92 v110,h⟩ (fun s=>kc (CL mx) run lp (xA mx) s κn κx) κx) (cmp bP v47 (.int 9223372036854775807 2) h (fun a0 h=>bn a0 (aJ (fun a1 h=>dm 0 a1 h (fun a2 h=>dm 1 a1 h (fun a3 h=>dm 2 a1 h (fun a4 h=>lD a4 h (fun a5 h=>ar a5 false (fun κ=>aN a2 h κ) h (fun a6 h=>ar a5 false (fun κ=>aN v0 h κ) h (fun a7 h=>ar a5 false (fun κ=>bF a7 h κ) h (fun a8 h=>ar a5 false (fun κ=>aN a3 h κ) h (fun a9 h=>ar a5 false (fun κ=>arith gU a8 a9 h κ) h (fun a10 h=>ar a5 false (fun κ=>cvI 18446744073709551615 a10 h κ) h (fun a11 h=>ar a5 false (fun κ=>cmp igt a6 a11 h κ) h (fun a12 h=>dh a5 (.bool true) a12 h (fun a13 h=>bn a13 (κx .ret ⟨aX v0 (.nils) (.bool false) v4 v5 v6 v7 v8 v9 v10 v11 v12 v13 a2 a3 a4 v19 v35 v47 v48 v57 v63 v68 v72 v76 a0 a13,h⟩) (kc (CL mx) run lp (adI mx) ⟨aX v0 v2 v3 v4 v5 v6 v7 v8 v9 v10 v11 v12 v13 a2 a3 a4 v19 v35 v47 v48 v57 v63 v68 v72 v76 a0 a13,h⟩ κn κx)))))))))))))) (aE (CL mx) run 25 [v0] h)) (κx .ret ⟨aX v0 (.nils) (.bool false) v4 v5 v6 v7 v8 v9 v10 v11 v12 v13 v14 v15 v16 v19 v35 v47 v48 v57 v63 v68 v72 v76 a0 v110,h⟩))):=by kernel_rfl
theorem wJ:kc (CL mx) run lp (ajc mx) ⟨aX v0 v2 v3 v4 v5 v6 v7 v8 v9 v10 v11 v12 v13 v14 v15 v16 v19 v35 v47 v48 v57 v63 v68 v72 v76 v92 v110,h⟩ κn κx=aj 1 v8 h (fun a0 h=>ao a0 h (fun a1 h=>cmp bP a1 (.int 9223372036854775807 5) h (fun a2 h=>bn a2 (κn ⟨aX v0 v2 v3 v4 v5 v6 v7 v8 v9 v10 v11 (.int 9223372036854775807 4) v13 v14 v15 v16 v19 v35 v47 v48 v57 v63 a2 v72 v76 v92 v110,h⟩) (κn ⟨aX v0 v2 v3 v4 v5 v6 v7 v8 v9 v10 v11 v12 v13 v14 v15 v16 v19 v35 v47 v48 v57 v63 a2 v72 v76 v92 v110,h⟩)))):=by kernel_rfl
theorem acs:kc (CL mx) run lp (xA mx) ⟨aX v0 v2 v3 v4 v5 v6 v7 v8 v9 v10 v11 v12 v13 v14 v15 v16 v19 v35 v47 v48 v57 v63 v68 v72 v76 v92 v110,h⟩ κn κx=bF v0 h (fun a0 h=>cmp ilt a0 v12 h (fun a1 h=>bn a1 (κx .ret ⟨aX v0 (.nils) (.bool false) v4 v5 v6 v7 v8 v9 v10 v11 v12 v13 v14 v15 v16 v19 v35 v47 v48 v57 v63 v68 a1 v76 v92 v110,h⟩) (kc (CL mx) run lp (aev mx) ⟨aX v0 v2 v3 v4 v5 v6 v7 v8 v9 v10 v11 v12 v13 v14 v15 v16 v19 v35 v47 v48 v57 v63 v68 a1 v76 v92 v110,h⟩ (fun s=>kc (CL mx) run lp (adW mx) s κn κx) κx))):=by kernel_rfl
theorem abU:kc (CL mx) run lp (adI mx) ⟨aX v0 v2 v3 v4 v5 v6 v7 v8 v9 v10 v11 v12 v13 v14 v15 v16 v19 v35 v47 v48 v57 v63 v68 v72 v76 v92 v110,h⟩ κn κx=cvI 9223372036854775807 v14 h (fun a0 h=>arith dX v15 a0 h (fun a1 h=>slS 1 v0 (some v15) (some a1) none h (fun a2 h=>aN v0 h (fun a3 h1=>bq (AV.lt (ag h) a3) ((fun h=>aN v15 h (fun a4 h1=>bq (AV.lt (ag h) a4) ((fun h=>aN v14 h (fun a5 h1=>bq (AV.lt (ag h) a5) ((fun h=>cvI 9223372036854775807 a5 h (fun a6 h1=>bq (AV.lt (ag h) a6) ((fun h=>arith dX a4 a6 h (fun a7 h1=>bq (AV.lt (ag h) a7) ((fun h=>slS 1 a3 (some a7) none none h (fun a8 h1=>bq (AV.lt (ag h) a8) ((fun h=>aj 3 v8 h (fun a9 h=>bS a9 a2 h (fun a10 h1=>bq (Nat.ble (ag h) (ag h1)) ((fun h=>κn ⟨aX a8 v2 v3 v4 v5 v6 v7 v8 v9 v10 v11 v12 v13 v14 v15 v16 v19 v35 v47 v48 v57 v63 v68 v72 v76 v92 v110,h⟩) h1) none))) h1) none)) h1) none)) h1) none)) h1) none)) h1) none)) h1) none)))):=(bV (C:=CL mx) (ops:=opsOf (cAt [1,1,0,0,0,1,0,1,1,1,1,0,1,0,1,1,1,1,1,0,1,1] (aD (CL mx) 9))) (ps:=[0,2,3,4,5,6,7,8,9,10,11,12,13,14,15,16,19,35,47,48,57,63,68,72,76,92,110]) (by kernel_rfl) (by kernel_rfl) _ _ _).trans (by kernel_rfl)
theorem acg:kc (CL mx) run lp (aev mx) ⟨aX v0 v2 v3 v4 v5 v6 v7 v8 v9 v10 v11 v12 v13 v14 v15 v16 v19 v35 v47 v48 v57 v63 v68 v72 v76 v92 v110,h⟩ κn κx=arith gU v12 (.int 9223372036854775807 1) h (fun a0 h=>kcR κn (kcO 3 κn κx) (lp (yp mx) ⟨aX v0 v2 v3 v4 v5 v6 v7 v8 v9 v10 v11 v12 a0 v14 v15 v16 v19 v35 v47 v48 v57 v63 v68 v72 v76 v92 v110,h⟩)):=by kernel_rfl
theorem aaV:kc (CL mx) run lp (adW mx) ⟨aX v0 v2 v3 v4 v5 v6 v7 v8 v9 v10 v11 v12 v13 v14 v15 v16 v19 v35 v47 v48 v57 v63 v68 v72 v76 v92 v110,h⟩ κn κx=slS 1 v0 (some v12) none none h (fun a0 h=>κn ⟨aX a0 v2 v3 v4 v5 v6 v7 v8 v9 v10 v11 v12 v13 v14 v15 v16 v19 v35 v47 v48 v57 v63 v68 v72 v76 v92 v110,h⟩):=by kernel_rfl
theorem tA:kc (CL mx) run lp (yp mx) ⟨aX v0 v2 v3 v4 v5 v6 v7 v8 v9 v10 v11 v12 v13 v14 v15 v16 v19 v35 v47 v48 v57 v63 v68 v72 v76 v92 v110,h⟩ κn κx=cmp ige v13 (.int 9223372036854775807 0) h (fun a0 h=>bn a0 (kc (CL mx) run lp (aeK mx) ⟨aX v0 v2 v3 v4 v5 v6 v7 v8 v9 v10 v11 v12 v13 v14 v15 v16 v19 v35 v47 v48 v57 v63 v68 v72 a0 v92 v110,h⟩ (fun s=>kc (CL mx) run lp (aeN mx) s κn κx) κx) (κx (.exit 3) ⟨aX v0 v2 v3 v4 v5 v6 v7 v8 v9 v10 v11 v12 v13 v14 v15 v16 v19 v35 v47 v48 v57 v63 v68 v72 a0 v92 v110,h⟩)):=by kernel_rfl
theorem ace:kc (CL mx) run lp (aeK mx) ⟨aX v0 v2 v3 v4 v5 v6 v7 v8 v9 v10 v11 v12 v13 v14 v15 v16 v19 v35 v47 v48 v57 v63 v68 v72 v76 v92 v110,h⟩ κn κx=kc (CL mx) run lp (ad6 mx) ⟨aX v0 v2 v3 v4 v5 v6 v7 v8 v9 v10 v11 v12 v13 v14 v15 v16 v19 v35 v47 v48 v57 v63 v68 v72 v76 v92 v110,h⟩ κn (kcO 4 κn κx):=by kernel_rfl
theorem acT:kc (CL mx) run lp (aeN mx) ⟨aX v0 v2 v3 v4 v5 v6 v7 v8 v9 v10 v11 v12 v13 v14 v15 v16 v19 v35 v47 v48 v57 v63 v68 v72 v76 v92 v110,h⟩ κn κx=arith gU v13 (.int 9223372036854775807 1) h (fun a0 h=>κn ⟨aX v0 v2 v3 v4 v5 v6 v7 v8 v9 v10 v11 v12 a0 v14 v15 v16 v19 v35 v47 v48 v57 v63 v68 v72 v76 v92 v110,h⟩):=by kernel_rfl
theorem aa4:kc (CL mx) run lp (ad6 mx) ⟨aX v0 v2 v3 v4 v5 v6 v7 v8 v9 v10 v11 v12 v13 v14 v15 v16 v19 v35 v47 v48 v57 v63 v68 v72 v76 v92 v110,h⟩ κn κx=aj 2 v8 h (fun a0 h=>ao a0 h (fun a1 h=>arith pV a1 (.int 18446744073709551615 256) h (fun a2 h=>bL 1 v0 v13 h (fun a3 h=>ao a3 h (fun a4 h=>cvI 18446744073709551615 a4 h (fun a5 h=>arith dX a2 a5 h (fun a6 h=>aj 2 v8 h (fun a7 h=>bS a7 a6 h (fun a8 h1=>bq (Nat.ble (ag h) (ag h1)) ((fun h=>κn ⟨aX v0 v2 v3 v4 v5 v6 v7 v8 v9 v10 v11 v12 v13 v14 v15 v16 v19 v35 v47 v48 v57 v63 v68 v72 v76 v92 v110,h⟩) h1) none))))))))):=(bV (C:=CL mx) (ops:=opsOf (cAt [1,1,0,0,0,1,0,1,1,1,1,0,1,0,1,1,1,0,1,1,1,0,1,0,0,1,0,0] (aD (CL mx) 9))) (ps:=[0,2,3,4,5,6,7,8,9,10,11,12,13,14,15,16,19,35,47,48,57,63,68,72,76,92,110]) (by kernel_rfl) (by kernel_rfl) _ _ _).trans (by kernel_rfl)
theorem zP:kcE (CL mx) [.tmp 2,.tmp 3] ⟨aX v0 v2 v3 v4 v5 v6 v7 v8 v9 v10 v11 v12 v13 v14 v15 v16 v19 v35 v47 v48 v57 v63 v68 v72 v76 v92 v110,h⟩=some (.vh (.tup [v2,v3]) h):=(bH _ _ _).trans (by kernel_rfl)
theorem aof:cZ (CL mx) 9=some ⟨abm mx,[0,2,3,4,5,6,7,8,9,10,11,12,13,14,15,16,19,35,47,48,57,63,68,72,76,92,110],130,[.tmp 2,.tmp 3]⟩:=by kernel_rfl
end
theorem akI (mx:Int) (run:Run) (lp:Lp) (x0:AV) (h:AH):cP (CL mx) run lp 9 [x0] h=vhO (kc (CL mx) run lp (abm mx) ⟨aX x0 .bot .bot .bot .bot .bot .bot .bot .bot .bot .bot .bot .bot .bot .bot .bot .bot .bot .bot .bot .bot .bot .bot .bot .bot .bot .bot,h⟩ (kcE (CL mx) [.tmp 2,.tmp 3]) (kcQ (CL mx) [.tmp 2,.tmp 3])):=(bI (by kernel_rfl) (aof mx) (by kernel_rfl)).trans (by kernel_rfl)
theorem sP (mx:Int) (p:List Nat):dY (CL mx) (kAt p (kOf (CL mx) 9)):=iq p (iA (CL mx) 9)
end
def lv8:List Nat→Nat
 |[]=>0
 |c::r=>c+256*lv8 r
theorem aaw (l:List Nat):kW true l=lv8 l:=by
 unfold kW beN
 rw [if_pos rfl,List.foldl_reverse]
 induction l with
 |nil=>rfl
 |cons c r ih=>show List.foldr (fun x y=>y*256+x) 0 r*256+c=c+256*lv8 r;rw [ih];omega
theorem ajx: ∀l:List Nat,(∀c∈l,c<256)→lv8 l<256^l.length
 |[],_=>by simp [lv8]
 |c::r,h=>by
  have:=ajx r fun x hx=>h x (List.mem_cons_of_mem _ hx)
  have hc:=h c (List.mem_cons_self ..)
  unfold lv8
  rw [List.length_cons,Nat.pow_succ]
  omega
def GRow (h:AH) (r:List AV) (x:gJ):Prop:=∃dv,r=[N64 x.num,N64 x.ty,U64 x.val,dv]∧dv.plain=true∧dj dv (aR x.dat)
section
variable {mx:Int} {h:AH} {Q:Option Rs→Prop} {κn:Kt} {κx:Ex→Kt}
theorem amK {d:AV} {bs l:List Nat} {p y:Nat} {c0 c1 c3:AV} (hd:dj d (aR bs)) (hl:l=bs.take l.length) (hc: ∀c∈bs,c<256) (h8:l.length≤8) (v2 v3 v4 v5 v6 v7 v9 v10 v11 v12 v14 v15 v16 v19 v35 v47 v48 v57 v63 v68 v72 v92 v110:AV):
 ∀(j f:Nat) (h:AH) (v76:AV),j≤l.length→j+2≤f→aa h p=some (.cells [c0,c1,U64 (lv8 (l.drop j)),c3] y)→
  (∀h' v13 v76,h'.length=h.length→(∀i,i≠p→aa h' i=aa h i)→aa h' p=some (.cells [c0,c1,U64 (lv8 l),c3] y)→Q (κx (.exit 3) ⟨aX d v2 v3 v4 v5 v6 v7 (.pto p 0) v9 v10 v11 v12 v13 v14 v15 v16 v19 v35 v47 v48 v57 v63 v68 v72 v76 v92 v110,h'⟩))→
  Q (kcR κn κx ((rl (CL mx) f).lp (yp mx) ⟨aX d v2 v3 v4 v5 v6 v7 (.pto p 0) v9 v10 v11 v12 (.int 9223372036854775807 ((j:Int)-1)) v14 v15 v16 v19 v35 v47 v48 v57 v63 v68 v72 v76 v92 v110,h⟩)):=by
 intro j
 induction j with
 |zero=>
  intro f h v76 hj hf hp q
  obtain ⟨f,rfl⟩:=fuel hf
  have d1:decide ((0:Int)≤ -1)=false:=by decide
  have d1':decide ((-1:Int)≥0)=false:=by decide
  refine fm (sP mx _) ?_
  rw [show ((0:Nat):Int)-1= -1 from rfl]
  simp only [sy,List.length_append,Nat.reduceAdd,Nat.reduceMul,Nat.reduceSub,Nat.reduceLeDiff,Nat.reduceEqDiff,Nat.reduceLT,reduceIte,tA,d1,d1']
  exact q h _ _ rfl (fun _ _=>rfl) hp
 |succ j ih=>
  intro f h v76 hj hf hp q
  obtain ⟨f,rfl⟩:=fuel hf
  have d1:decide ((0:Int)≤(j:Int))=true:=by rw [decide_eq_true_iff];omega
  have d1':decide ((j:Int)≥0)=true:=by rw [decide_eq_true_iff];omega
  refine fm (sP mx _) ?_
  rw [show ((j+1:Nat):Int)-1=(j:Int) by omega]
  obtain ⟨c,hcl⟩: ∃c,l[j]? =some c:=⟨_,List.getElem?_eq_getElem (by omega)⟩
  have hcb:bs[j]? =some c:=by
   rw [hl,List.getElem?_take_of_lt (by omega)] at hcl;exact hcl
  have hc256:=hc c (List.mem_of_getElem? hcb)
  obtain ⟨r,r2,r3⟩:=bAt (hd.at h) hcb
  have hdr:l.drop j=c::l.drop (j+1):=by rw [List.drop_eq_getElem_cons (by omega),(List.getElem?_eq_some_iff.1 hcl).2]
  have hlv:lv8 (l.drop j)=c+256*lv8 (l.drop (j+1)):=by rw [hdr];rfl
  have hle:=ajx (l.drop j) fun x hx=>hc x (List.mem_of_mem_take (by rw [hl] at hx;exact List.mem_of_mem_drop hx))
  have hpw:256^(l.drop j).length≤256^8:=Nat.pow_le_pow_right (by decide) (by rw [List.length_drop];omega)
  have e8:(256:Nat)^8=18446744073709551616:=by decide
  have w1:aM 18446744073709551615 ((c:Nat):Int)=((c:Nat):Int):=bE (by omega)
  have w2:aM 18446744073709551615 ((lv8 (l.drop (j+1)):Int)*256)=((lv8 (l.drop (j+1))*256:Nat):Int):=by
   rw [show (lv8 (l.drop (j+1)):Int)*256=((lv8 (l.drop (j+1))*256:Nat):Int) by omega,bE (by omega)]
  have w3:aM 18446744073709551615 (((lv8 (l.drop (j+1))*256:Nat):Int)+((c:Nat):Int))=((lv8 (l.drop j):Nat):Int):=by
   rw [show ((lv8 (l.drop (j+1))*256:Nat):Int)+((c:Nat):Int)=((lv8 (l.drop j):Nat):Int) by omega,bE (by omega)]
  have w4:aM 9223372036854775807 ((j:Int)-1)=(j:Int)-1:=aT (by omega) (by omega)
  unfold U64 at hp
  have lt:=aI hp
  have ble: ∀X,Nat.ble (ag h) (ag (h.set p X))=true:=fun X=>by rw [bR,ah,ah,List.length_set,decide_eq_true_iff];exact Nat.le_refl _
  have:=ih (f+(j+2)) (h.set p (some (.cells [c0,c1,U64 (lv8 (l.drop j)),c3] y))) (.bool true) (by omega) (by omega) (ax lt _) fun h' v13 v76 q1 q2 q3=>q h' v13 v76 (by rw [q1,List.length_set]) (fun i hi=>by rw [q2 i hi,ae (Ne.symm hi)]) q3
  simp only [sy,List.length_append,Nat.reduceAdd,Nat.reduceMul,Nat.reduceSub,Nat.reduceLeDiff,Nat.reduceEqDiff,Nat.reduceLT,reduceIte,tA,ace,acT,aa4,d1,d1',hp,r2,r3,w1,w2,w3,w4,ble]
  exact this
theorem oI {v:AV} {l:List Nat} (p:dj v (aR l)) (hne:l≠[]) {n:Nat} (hn:n≤l.length) (k:Nat): ∃v',dj v' (aR (l.drop n))∧ ∀(h:AH) (κ:Ka),slS 1 v (some (.int k (n:Int))) none none h κ=κ v' h:=by
 refine ⟨_,?_,fun h κ=>p.tail (fun c=>hne (by simpa [aR] using c)) (by rw [bg];exact hn) k h κ⟩
 rw [jq]
 exact dj.mk _ (by rw [bg,bg,List.length_drop])
theorem aoB {v:AV} {l:List Nat} (p:dj v (aR l)) (hne:l≠[]) {a n:Nat} (hn:a+n≤l.length) (k k':Nat): ∃v',dj v' (aR ((l.drop a).take n))∧v'.plain=true∧ ∀(h:AH) (κ:Ka),slS 1 v (some (.int k (a:Int))) (some (.int k' ((a+n:Nat):Int))) none h κ=κ v' h:=by
 refine ⟨_,?_,?_,fun h κ=>p.cut (fun c=>hne (by simpa [aR] using c)) (by omega) (by rw [bg];exact hn) k k' h κ⟩
 ·rw [jq,show a+n-a=n by omega,mB]
  exact dj.mk _ (by rw [bg,List.length_take,List.length_drop];omega)
 ·rw [jq,show a+n-a=n by omega,mB]
  show AV.plain (.slp _ _)=true
  rfl
structure arl (n0:Nat) (h0 h:AH) (v:AV) (A:List gJ):Prop where
 ex: ∃rows,OwR h (fun b=>n0≤b) 4 v rows∧rows.length=A.length∧ ∀(i:Nat) r x,rows[i]? =some r→A[i]? =some x→GRow h0 r x
 len:n0≤h.length
 old: ∀i,i<n0→aa h i=aa h0 i
theorem aj2 {n0:Nat} {h0:AH}: ∀(k:Nat) (b:List Nat) (A:List gJ) (f:Nat) (hc:AH) (v0 v4 v5 v6 v7 v8 v9 v10 v11 v12 v13 v14 v15 v16 v19 v35 v47 v48 v57 v63 v68 v72 v76 v92 v110:AV),
 b.length<k→k+60≤f→b.length≤100000→(∀c∈b,c<256)→A.length+b.length≤50000→dj v0 (aR b)→arl n0 h0 hc v4 A→
 (∀L,dW k b=some L→ ∀h' v0 v4 v5 v6 v7 v8 v9 v10 v11 v12 v13 v14 v15 v16 v19 v35 v47 v48 v57 v63 v68 v72 v76 v92 v110,arl n0 h0 h' v4 (A++L)→Q (κx (.exit 0) ⟨aX v0 .nils (.bool false) v4 v5 v6 v7 v8 v9 v10 v11 v12 v13 v14 v15 v16 v19 v35 v47 v48 v57 v63 v68 v72 v76 v92 v110,h'⟩))→
 (dW k b=none→ ∀h' v0 v4 v5 v6 v7 v8 v9 v10 v11 v12 v13 v14 v15 v16 v19 v35 v47 v48 v57 v63 v68 v72 v76 v92 v110,n0≤h'.length→(∀i,i<n0→aa h' i=aa h0 i)→Q (κx .ret ⟨aX v0 .nils (.bool false) v4 v5 v6 v7 v8 v9 v10 v11 v12 v13 v14 v15 v16 v19 v35 v47 v48 v57 v63 v68 v72 v76 v92 v110,h'⟩))→
 Q (kcR κn κx ((rl (CL mx) f).lp (jG mx) ⟨aX v0 .nils (.bool false) v4 v5 v6 v7 v8 v9 v10 v11 v12 v13 v14 v15 v16 v19 v35 v47 v48 v57 v63 v68 v72 v76 v92 v110,hc⟩)):=by
 intro k
 induction k with
 |zero=>intro b A f hc v0 v4 v5 v6 v7 v8 v9 v10 v11 v12 v13 v14 v15 v16 v19 v35 v47 v48 v57 v63 v68 v72 v76 v92 v110 hk;omega
 |succ k ih=>
  intro b A f hc v0 v4 v5 v6 v7 v8 v9 v10 v11 v12 v13 v14 v15 v16 v19 v35 v47 v48 v57 v63 v68 v72 v76 v92 v110 hk hf hb hd hA hp FS k1 k2
  obtain ⟨g,rfl⟩: ∃g,f=g+k+60+1:=⟨f-k-61,by omega⟩
  have hlen:=fun h κ=>(hp.at hc).bF h κ
  rw [bg] at hlen
  unfold dW at k1 k2
  refine fm (sP mx _) ?_
  by_cases hb0:b=[]
  ·subst hb0
   rw [if_pos rfl] at k1
   have d0:decide (((0:Nat):Int)>0)=false:=by decide
   have d0':decide (0<((0:Nat):Int))=false:=by decide
   simp only [List.length_nil] at hlen
   simp only [sy,List.length_append,Nat.reduceAdd,Nat.reduceMul,Nat.reduceSub,Nat.reduceLeDiff,Nat.reduceEqDiff,Nat.reduceLT,reduceIte,vo,hlen,Int.lt_irrefl]
   refine k1 [] rfl _ _ _ _ _ _ _ _ _ _ _ _ _ _ _ _ _ _ _ _ _ _ _ _ _ _ ?_
   rw [List.append_nil];exact FS
  ·rw [if_neg hb0] at k1 k2
   have hpos:=List.length_pos_iff.2 hb0
   have d0:decide ((b.length:Int)>0)=true:=by rw [decide_eq_true_iff];omega
   have d0':decide (0<(b.length:Int))=true:=by rw [decide_eq_true_iff];omega
   have vg:=tU (mx:=mx) (hp.at hc) (by omega) hd (g+k+29)
   rw [show g+k+29+31=g+k+60 by omega] at vg
   have oldc:=FS.old
   have lenc:=FS.len
   simp only [sy,List.length_append,Nat.reduceAdd,Nat.reduceMul,Nat.reduceSub,Nat.reduceLeDiff,Nat.reduceEqDiff,Nat.reduceLT,reduceIte,vo,hlen,d0,d0']
   refine bG vg.call ?_
   rintro r h' ⟨rfl,rfl⟩
   by_cases hk0:(aZ 0 0 b).1≠0∨(aZ 0 0 b).2.1<8∨4294967295<(aZ 0 0 b).2.1
   ·have none_:gq b=none:=by unfold gq;rw [if_pos hk0]
    rw [none_] at k2
    by_cases c1:(aZ 0 0 b).1=0
    ·have e1:decide ((aZ 0 0 b).1=0)=true:=decide_eq_true c1
     by_cases c2:(aZ 0 0 b).2.1<8
     ·have e2:decide (((aZ 0 0 b).2.1:Int)<8)=true:=by rw [decide_eq_true_iff];omega
      simp only [sy,List.length_append,Nat.reduceAdd,Nat.reduceMul,Nat.reduceSub,Nat.reduceLeDiff,Nat.reduceEqDiff,Nat.reduceLT,reduceIte,U64,n64,e1,e2]
      exact k2 rfl _ _ _ _ _ _ _ _ _ _ _ _ _ _ _ _ _ _ _ _ _ _ _ _ _ _ lenc oldc
     ·have e2:decide (((aZ 0 0 b).2.1:Int)<8)=false:=by rw [decide_eq_false_iff_not];omega
      have e3:decide (((aZ 0 0 b).2.1:Int)>4294967295)=true:=by rw [decide_eq_true_iff];omega
      have e3':decide (4294967295<((aZ 0 0 b).2.1:Int))=true:=by rw [decide_eq_true_iff];omega
      simp only [sy,List.length_append,Nat.reduceAdd,Nat.reduceMul,Nat.reduceSub,Nat.reduceLeDiff,Nat.reduceEqDiff,Nat.reduceLT,reduceIte,U64,n64,e1,e2,e3,e3']
      exact k2 rfl _ _ _ _ _ _ _ _ _ _ _ _ _ _ _ _ _ _ _ _ _ _ _ _ _ _ lenc oldc
    ·have e1:decide ((aZ 0 0 b).1=0)=false:=decide_eq_false c1
     simp only [sy,List.length_append,Nat.reduceAdd,Nat.reduceMul,Nat.reduceSub,Nat.reduceLeDiff,Nat.reduceEqDiff,Nat.reduceLT,reduceIte,U64,n64,e1]
     exact k2 rfl _ _ _ _ _ _ _ _ _ _ _ _ _ _ _ _ _ _ _ _ _ _ _ _ _ _ lenc oldc
   ·have e1:decide ((aZ 0 0 b).1=0)=true:=by rw [decide_eq_true_iff];omega
    have e2:decide (((aZ 0 0 b).2.1:Int)<8)=false:=by rw [decide_eq_false_iff_not];omega
    have e3:decide (((aZ 0 0 b).2.1:Int)>4294967295)=false:=by rw [decide_eq_false_iff_not];omega
    have e3':decide (4294967295<((aZ 0 0 b).2.1:Int))=false:=by rw [decide_eq_false_iff_not];omega
    obtain ⟨_,m1,m2⟩:=ie b 0 0 (by decide) (by decide) (by omega)
    have some_:gq b=l7 (aZ 0 0 b).2.1 (b.drop (aZ 0 0 b).2.2):=by unfold gq;rw [if_neg hk0]
    rw [some_] at k1 k2
    obtain ⟨x,hx⟩: ∃x,x=(aZ 0 0 b).2.1:=⟨_,rfl⟩
    obtain ⟨m,hm⟩: ∃m,m=(aZ 0 0 b).2.2:=⟨_,rfl⟩
    rw [←hx] at hk0 e2 e3 e3' k1 k2 ⊢
    rw [←hm] at m1 m2 k1 k2 ⊢
    obtain ⟨v0',hp',ct⟩:=oI hp hb0 (n:=m) (by omega) 9223372036854775807
    have hd': ∀c∈b.drop m,c<256:=fun c hcc=>hd c (List.mem_of_mem_drop hcc)
    have dl:(b.drop m).length=b.length-m:=List.length_drop
    generalize hb':b.drop m=b' at*
    have q8:aiy (x:Int) 8=((x/8:Nat):Int):=ajV x 8
    have r8:abS (x:Int) 8=((x%8:Nat):Int):=zE x 8
    have ne8:decide ((8:Int)≠0)=true:=by decide
    have wq:aM 18446744073709551615 ((x/8:Nat):Int)=((x/8:Nat):Int):=bE (by omega)
    have wr:aM 18446744073709551615 ((x%8:Nat):Int)=((x%8:Nat):Int):=bE (by omega)
    have wq':aM 9223372036854775807 ((x/8:Nat):Int)=((x/8:Nat):Int):=bE (by omega)
    have wr':aM 9223372036854775807 ((x%8:Nat):Int)=((x%8:Nat):Int):=bE (by omega)
    simp only [sy,List.length_append,Nat.reduceAdd,Nat.reduceMul,Nat.reduceSub,Nat.reduceLeDiff,Nat.reduceEqDiff,Nat.reduceLT,reduceIte,U64,n64,e1,e2,e3,e3',ct,q8,r8,ne8,wq,wr,wq',wr']
    obtain ⟨yF,hyF⟩: ∃y:Nat,y=42+1:=⟨_,rfl⟩
    have zf: ∀κ:Ka,aL 4 (.pto h'.length 0) (.agg [N64 (x/8),N64 (x%8),.int 18446744073709551615 0,.nils]) (h'++[some (.cells [.int 9223372036854775807 0,.int 9223372036854775807 0,.int 18446744073709551615 0,.nils] (42+1))]) κ=κ (.tup []) (h'++[some (.cells [N64 (x/8),N64 (x%8),.int 18446744073709551615 0,.nils] yF)]):=fun κ=>by rw [hyF];exact cT rfl rfl rfl
    refine wEq (dI (cs:=[N64 (x/8),N64 (x%8),.int 18446744073709551615 0,.nils]) (by kernel_rfl)) ?_
    refine wEq (zf _) ?_
    obtain ⟨H1,hH1⟩: ∃H1,H1=h'++[some (.cells [N64 (x/8),N64 (x%8),.int 18446744073709551615 0,.nils] yF)]:=⟨_,rfl⟩
    rw [←hH1]
    have l1:H1.length=h'.length+1:=by rw [hH1];simp
    have f1: ∀i,i<h'.length→aa H1 i=aa h' i:=fun i hi=>by rw [hH1,ak hi]
    have e1':aa H1 h'.length=some (.cells [.int 9223372036854775807 ((x/8:Nat):Int),.int 9223372036854775807 ((x%8:Nat):Int),.int 18446744073709551615 0,.nils] yF):=by rw [hH1,aH];rfl
    have xk:x/8*8+x%8=x:=by omega
    -- the end of a round
    have fin: ∀(H3:AH) (val:Nat) (dat rest:List Nat) (dv w0:AV),H3.length=h'.length+1→(∀i,i<h'.length→aa H3 i=aa h' i)→aa H3 h'.length=some (.cells [N64 (x/8),N64 (x%8),U64 val,dv] yF)→dv.plain=true→dj dv (aR dat)→dj w0 (aR rest)→rest.length<b.length→(∀c∈rest,c<256)→l7 x b'=some (⟨x/8,x%8,val,dat⟩,rest)→
     ∀v5 v6 v7 v9 v10 v11 v12 v13 v14 v15 v16 v19 v35 v47 v48 v57 v63 v68 v72 v76 v92 v110,Q (kc (CL mx) (rl (CL mx) (g+k+60)).run (rl (CL mx) (g+k+60)).lp (ux mx) ⟨aX w0 .nils (.bool false) v4 v5 v6 v7 (.pto h'.length 0) v9 v10 v11 v12 v13 v14 v15 v16 v19 v35 v47 v48 v57 v63 v68 v72 v76 v92 v110,H3⟩
      (fun s=>kcR κn κx ((rl (CL mx) (g+k+60)).lp (jG mx) s)) (kcO 1 (fun s=>kcR κn κx ((rl (CL mx) (g+k+60)).lp (jG mx) s)) κx)):=by
     intro H3 val dat rest dv w0 l3 f3 e3 pdv pd pw hr hrd hv v5 v6 v7 v9 v10 v11 v12 v13 v14 v15 v16 v19 v35 v47 v48 v57 v63 v68 v72 v76 v92 v110
     rw [hv] at k1 k2
     obtain ⟨rows,ow,hrl,hrow⟩:=FS.ex
     have hq:aV [N64 (x/8),N64 (x%8),U64 val,dv]=true:=by
      show and true (and true (and true (and dv.plain true)))=true
      rw [pdv];rfl
     have lf: ∀κ:Ka,aO 4 (.pto h'.length 0) H3 κ=κ (.agg [N64 (x/8),N64 (x%8),U64 val,dv]) H3:=fun κ=>cA (n:=4) e3 rfl κ
     have ow3:OwR (H3++[some (.cells [N64 (x/8),N64 (x%8),U64 val,dv] 0)]) (fun b=>n0≤b) 4 v4 rows:=ow.mono fun b hb hs=>⟨hs,by rw [ak (by omega)];exact f3 b hb⟩
     obtain ⟨v',h2,a1,a2,a3,a4⟩:=ow3.app yF (by_:=48) (by decide) (by decide) (x:=.slo H3.length 0 1 1 4 true) (q:=[N64 (x/8),N64 (x%8),U64 val,dv]) rfl (aiJ _ rfl H3) rfl hq (by omega)
     rw [List.length_append,l3] at a3
     simp only [List.length_cons,List.length_nil] at a3
     have sS: ∀b,(n0≤b∨b=(H3++[some (Blk.cells [N64 (x/8),N64 (x%8),U64 val,dv] 0)]).length)→n0≤b:=fun b hs=>by
      rcases hs with hs|rfl
      ·exact hs
      ·rw [List.length_append];omega
     refine wEq (ae6 ..) ?_
     refine wEq (lf _) ?_
     refine wEq (apx _ _ _ _ _ _ _) ?_
     rw [hyF] at a1
     refine wEq (a1 _) ?_
     refine ih rest (A++[⟨x/8,x%8,val,dat⟩]) (g+k+60) h2 w0 v' _ _ _ _ _ _ _ _ _ _ _ _ _ _ _ _ _ _ _ _ _ _ _ (by omega) (by omega) (by omega) hrd (by rw [List.length_append];simp;omega) pw
      ⟨⟨rows++[[N64 (x/8),N64 (x%8),U64 val,dv]],a2.mono fun b _ hs=>⟨sS b hs,rfl⟩,by simp [hrl],fun i r y hi hy=>?_⟩,by omega,fun i hi=>?_⟩ (fun L hL=>?_) (fun hL=>?_)
     ·by_cases hl:i<A.length
      ·rw [List.getElem?_append_left (by omega)] at hi
       rw [List.getElem?_append_left hl] at hy
       exact hrow i r y hi hy
      ·have hi2:i=A.length:=by
        have:=(List.getElem?_eq_some_iff.1 hy).1
        simp at this;omega
       subst hi2
       rw [←hrl,List.getElem?_append_right (Nat.le_refl _)] at hi
       rw [List.getElem?_append_right (Nat.le_refl _)] at hy
       simp at hi hy
       rw [←hi,←hy]
       exact ⟨dv,rfl,pdv,pd⟩
     ·rw [a4 i (by omega) (by rw [List.length_append];omega),ak (by omega),f3 i (by omega)]
      exact oldc i hi
     ·have e:(match (some (⟨x/8,x%8,val,dat⟩,rest):Option (gJ×List Nat)) with
       |none=>none
       |some (x,r)=>(dW k r).map (x:: ·))=some (⟨x/8,x%8,val,dat⟩::L):=by
       show (dW k rest).map _=_
       rw [hL];rfl
      have:=k1 _ e
      rw [List.append_assoc]
      exact this
     ·have e:(match (some (⟨x/8,x%8,val,dat⟩,rest):Option (gJ×List Nat)) with
       |none=>none
       |some (x,r)=>(dW k r).map (x:: ·))=none:=by
       show (dW k rest).map _=_
       rw [hL];rfl
      exact k2 e
    have bad:l7 x b'=none→ ∀(H3:AH),h'.length≤H3.length→(∀i,i<h'.length→aa H3 i=aa h' i)→ ∀w0 v4 v8 v5 v6 v7 v9 v10 v11 v12 v13 v14 v15 v16 v19 v35 v47 v48 v57 v63 v68 v72 v76 v92 v110,Q (κx .ret ⟨aX w0 .nils (.bool false) v4 v5 v6 v7 v8 v9 v10 v11 v12 v13 v14 v15 v16 v19 v35 v47 v48 v57 v63 v68 v72 v76 v92 v110,H3⟩):=by
     intro hv H3 l3 f3 w0 v4 v8 v5 v6 v7 v9 v10 v11 v12 v13 v14 v15 v16 v19 v35 v47 v48 v57 v63 v68 v72 v76 v92 v110
     rw [hv] at k2
     exact k2 rfl H3 w0 v4 v5 v6 v7 v8 v9 v10 v11 v12 v13 v14 v15 v16 v19 v35 v47 v48 v57 v63 v68 v72 v76 v92 v110 (by omega) fun i hi=>by rw [f3 i (by omega)];exact oldc i hi
    clear k1 k2 ih
    have lp: ∀n,AV.lt n v0'=true:=hp'.lt
    have hl': ∀(h:AH) (κ:Ka),bF v0' h κ=κ (.int 9223372036854775807 (b'.length:Int)) h:=fun h κ=>by
     have:=(hp'.at h).bF h κ
     rwa [bg] at this
    have pd0:dj .nils (aR []):=.inl ⟨rfl,.inl rfl⟩
    have nz: ∀{n:Nat},0<n→n≤b'.length→b'≠[]:=fun h1 h2 c=>by rw [c] at h2;simp at h2;omega
    have lt1:h'.length<H1.length:=by omega
    have ble: ∀X,Nat.ble (ag H1) (ag (H1.set h'.length X))=true:=fun X=>by rw [bR,ah,ah,List.length_set,decide_eq_true_iff];exact Nat.le_refl _
    have vg1:=tU (mx:=mx) (hp'.at H1) (by omega) hd' (g+k+29)
    rw [show g+k+29+31=g+k+60 by omega] at vg1
    have dd: ∀j,decide (((x%8:Nat):Int)=(j:Nat))=decide (x%8=j):=fun j=>by
     by_cases c:x%8=j
     ·rw [decide_eq_true c,decide_eq_true_iff];omega
     ·rw [decide_eq_false c,decide_eq_false_iff_not];omega
    have d0:decide (((x%8:Nat):Int)=0)=decide (x%8=0):=dd 0
    have d1:decide (((x%8:Nat):Int)=1)=decide (x%8=1):=dd 1
    have d2:decide (((x%8:Nat):Int)=2)=decide (x%8=2):=dd 2
    have d5:decide (((x%8:Nat):Int)=5)=decide (x%8=5):=dd 5
    unfold l7 at fin bad
    refine wEq (ahj ..) ?_
    by_cases t0:x%8=0
    ·simp only [sy,List.length_append,Nat.reduceAdd,Nat.reduceMul,Nat.reduceSub,Nat.reduceLeDiff,Nat.reduceEqDiff,Nat.reduceLT,reduceIte,e1',d0,decide_eq_true t0]
     refine bG vg1.call ?_
     rintro r hq ⟨rfl,hqe⟩
     rw [hqe]
     clear hqe
     by_cases ok:(aZ 0 0 b').1=0
     ·obtain ⟨u1,u2,u3⟩:=ie b' 0 0 (by decide) (by decide) ok
      obtain ⟨w0,pw,cw⟩:=oI hp' (nz u2 (by omega)) (n:=(aZ 0 0 b').2.2) (by omega) 9223372036854775807
      have lw: ∀n,AV.lt n w0=true:=pw.lt
      simp only [sy,List.length_append,Nat.reduceAdd,Nat.reduceMul,Nat.reduceSub,Nat.reduceLeDiff,Nat.reduceEqDiff,Nat.reduceLT,reduceIte,U64,n64,decide_eq_true ok,aeW,lp,cw,lw,e1',ble,List.set_cons_zero,List.set_cons_succ]
      refine fin _ (aZ 0 0 b').2.1 [] _ .nils w0 (by rw [List.length_set];exact l1) (fun i hi=>by rw [ae (by omega)];exact f1 i hi) (by rw [ax lt1];rfl) rfl pd0 pw (by rw [List.length_drop];omega) (fun c hcc=>hd' c (List.mem_of_mem_drop hcc)) (by rw [if_pos t0,if_neg (by omega),t0]) _ _ _ _ _ _ _ _ _ _ _ _ _ _ _ _ _ _ _ _ _ _
     ·simp only [sy,List.length_append,Nat.reduceAdd,Nat.reduceMul,Nat.reduceSub,Nat.reduceLeDiff,Nat.reduceEqDiff,Nat.reduceLT,reduceIte,U64,n64,decide_eq_false ok]
      exact bad (by rw [if_pos t0,if_pos ok]) H1 (by omega) f1 _ _ _ _ _ _ _ _ _ _ _ _ _ _ _ _ _ _ _ _ _ _ _ _ _
    simp only [sy,List.length_append,Nat.reduceAdd,Nat.reduceMul,Nat.reduceSub,Nat.reduceLeDiff,Nat.reduceEqDiff,Nat.reduceLT,reduceIte,e1',d0,decide_eq_false t0]
    -- numbers of so many bytes
    have num: ∀(w ty:Nat),x%8=ty→(ty=1∧w=8)∨(ty=5∧w=4)→ ∀(v5 v6 v7 v9 v10 v11 v13 v14 v15 v16 v19 v35 v47 v48 v57 v63 v68 v72 v76 v92 v110:AV),
     Q (kc (CL mx) (rl (CL mx) (g+k+60)).run (rl (CL mx) (g+k+60)).lp (xA mx) ⟨aX v0' .nils (.bool false) v4 v5 v6 v7 (.pto h'.length 0) v9 v10 v11 (N64 w) v13 v14 v15 v16 v19 v35 v47 v48 v57 v63 v68 v72 v76 v92 v110,H1⟩
       (fun s=>kc (CL mx) (rl (CL mx) (g+k+60)).run (rl (CL mx) (g+k+60)).lp (ux mx) s (fun s=>kcR κn κx ((rl (CL mx) (g+k+60)).lp (jG mx) s)) (kcO 1 (fun s=>kcR κn κx ((rl (CL mx) (g+k+60)).lp (jG mx) s)) κx))
       (kcO 2 (fun s=>kc (CL mx) (rl (CL mx) (g+k+60)).run (rl (CL mx) (g+k+60)).lp (ux mx) s (fun s=>kcR κn κx ((rl (CL mx) (g+k+60)).lp (jG mx) s)) (kcO 1 (fun s=>kcR κn κx ((rl (CL mx) (g+k+60)).lp (jG mx) s)) κx)) (kcO 1 (fun s=>kcR κn κx ((rl (CL mx) (g+k+60)).lp (jG mx) s)) κx))):=by
     intro w ty et hw v5 v6 v7 v9 v10 v11 v13 v14 v15 v16 v19 v35 v47 v48 v57 v63 v68 v72 v76 v92 v110
     have w8:1≤w∧w≤8:=by omega
     refine wEq (acs ..) ?_
     by_cases hl:b'.length<w
     ·have g1:decide ((b'.length:Int)<(w:Int))=true:=by rw [decide_eq_true_iff];omega
      simp only [sy,List.length_append,Nat.reduceAdd,Nat.reduceMul,Nat.reduceSub,Nat.reduceLeDiff,Nat.reduceEqDiff,Nat.reduceLT,reduceIte,hl',n64,g1]
      refine bad ?_ H1 (by omega) f1 _ _ _ _ _ _ _ _ _ _ _ _ _ _ _ _ _ _ _ _ _ _ _ _ _
      rcases hw with ⟨rfl,rfl⟩|⟨rfl,rfl⟩
      ·rw [if_neg (by omega),if_pos et,if_pos hl]
      ·rw [if_neg (by omega),if_neg (by omega),if_neg (by omega),if_pos et,if_pos hl]
     ·have g1:decide ((b'.length:Int)<(w:Int))=false:=by rw [decide_eq_false_iff_not];omega
      have w1:aM 9223372036854775807 ((w:Int)-1)=(w:Int)-1:=aT (by omega) (by omega)
      obtain ⟨w0,pw,cw⟩:=oI hp' (nz (show 0<w by omega) (by omega)) (n:=w) (by omega) 9223372036854775807
      have tl:(b'.take w).length=w:=by rw [List.length_take];omega
      simp only [sy,List.length_append,Nat.reduceAdd,Nat.reduceMul,Nat.reduceSub,Nat.reduceLeDiff,Nat.reduceEqDiff,Nat.reduceLT,reduceIte,hl',n64,g1,acg,w1]
      refine amK (mx:=mx) (l:=b'.take w) hp' (by rw [tl]) hd' (by omega) _ _ _ _ _ _ _ _ _ _ _ _ _ _ _ _ _ _ _ _ _ _ _ w (g+k+60) H1 _ (by omega) (by omega) (by rw [List.drop_of_length_le (by omega)];exact e1') fun h2 v13 v76 l2 f2 e2'=>?_
      simp only [vB,decide_true,bqT,aaV]
      refine wEq (cw _ _) ?_
      refine fin h2 (lv8 (b'.take w)) [] (b'.drop w) .nils w0 (by omega) (fun i hi=>by rw [f2 i (by omega)];exact f1 i hi) e2' rfl pd0 pw (by rw [List.length_drop];omega) (fun c hcc=>hd' c (List.mem_of_mem_drop hcc)) ?_ _ _ _ _ _ _ _ _ _ _ _ _ _ _ _ _ _ _ _ _ _ _
      rcases hw with ⟨rfl,rfl⟩|⟨rfl,rfl⟩
      ·rw [if_neg (by omega),if_pos et,if_neg hl,aaw,et]
      ·rw [if_neg (by omega),if_neg (by omega),if_neg (by omega),if_pos et,if_neg hl,aaw,et]
    refine wEq (agA ..) ?_
    by_cases t1:x%8=1
    ·simp only [sy,List.length_append,Nat.reduceAdd,Nat.reduceMul,Nat.reduceSub,Nat.reduceLeDiff,Nat.reduceEqDiff,Nat.reduceLT,reduceIte,d1,decide_eq_true t1,np,wJ,e1',d5,decide_eq_false (show ¬x%8=5 by omega)]
     exact num 8 1 t1 (.inl ⟨rfl,rfl⟩) _ _ _ _ _ _ _ _ _ _ _ _ _ _ _ _ _ _ _ _ _
    by_cases t5:x%8=5
    ·simp only [sy,List.length_append,Nat.reduceAdd,Nat.reduceMul,Nat.reduceSub,Nat.reduceLeDiff,Nat.reduceEqDiff,Nat.reduceLT,reduceIte,d1,decide_eq_false t1,d5,decide_eq_true t5,np,wJ,e1']
     exact num 4 5 t5 (.inr ⟨rfl,rfl⟩) _ _ _ _ _ _ _ _ _ _ _ _ _ _ _ _ _ _ _ _ _
    by_cases t2:x%8=2
    ·simp only [sy,List.length_append,Nat.reduceAdd,Nat.reduceMul,Nat.reduceSub,Nat.reduceLeDiff,Nat.reduceEqDiff,Nat.reduceLT,reduceIte,d1,decide_eq_false t1,d5,decide_eq_false t5,np,d2,decide_eq_true t2]
     refine bG vg1.call ?_
     rintro r hq ⟨rfl,hqe⟩
     rw [hqe]
     clear hqe
     by_cases ok:(aZ 0 0 b').1=0
     ·obtain ⟨u1,u2,u3⟩:=ie b' 0 0 (by decide) (by decide) ok
      obtain ⟨y,hy⟩: ∃y,y=(aZ 0 0 b').2.1:=⟨_,rfl⟩
      obtain ⟨z,hz⟩: ∃z,z=(aZ 0 0 b').2.2:=⟨_,rfl⟩
      rw [←hy] at u1 fin bad ⊢
      rw [←hz] at u2 u3 fin bad ⊢
      have w1:aM 9223372036854775807 ((b'.length:Int)-(z:Int))=((b'.length-z:Nat):Int):=by rw [aT (by omega) (by omega)];omega
      have w2:aM 18446744073709551615 ((b'.length-z:Nat):Int)=((b'.length-z:Nat):Int):=bE (by omega)
      by_cases hl:b'.length-z<y
      ·have g1:decide ((y:Int)>((b'.length-z:Nat):Int))=true:=by rw [decide_eq_true_iff];omega
       have g1':decide (((b'.length-z:Nat):Int)<(y:Int))=true:=by rw [decide_eq_true_iff];omega
       simp only [sy,List.length_append,Nat.reduceAdd,Nat.reduceMul,Nat.reduceSub,Nat.reduceLeDiff,Nat.reduceEqDiff,Nat.reduceLT,reduceIte,U64,n64,decide_eq_true ok,hl',w1,w2,g1,g1']
       refine bad ?_ H1 (by omega) f1 _ _ _ _ _ _ _ _ _ _ _ _ _ _ _ _ _ _ _ _ _ _ _ _ _
       rw [if_neg t0,if_neg t1,if_pos t2,if_pos (.inr hl)]
      ·have g1:decide ((y:Int)>((b'.length-z:Nat):Int))=false:=by rw [decide_eq_false_iff_not];omega
       have g1':decide (((b'.length-z:Nat):Int)<(y:Int))=false:=by rw [decide_eq_false_iff_not];omega
       have w3:aM 9223372036854775807 (y:Int)=(y:Int):=bE (by omega)
       have w4:aM 9223372036854775807 ((z:Int)+(y:Int))=((z+y:Nat):Int):=by rw [aT (by omega) (by omega)];omega
       obtain ⟨wd,pwd,qwd,cd⟩:=aoB hp' (nz u2 (by omega)) (a:=z) (n:=y) (by omega) 9223372036854775807 9223372036854775807
       obtain ⟨w0,pw,cw⟩:=oI hp' (nz u2 (by omega)) (n:=z+y) (by omega) 9223372036854775807
       have lw: ∀n,AV.lt n w0=true:=pw.lt
       simp only [sy,List.length_append,Nat.reduceAdd,Nat.reduceMul,Nat.reduceSub,Nat.reduceLeDiff,Nat.reduceEqDiff,Nat.reduceLT,reduceIte,U64,n64,decide_eq_true ok,hl',w1,w2,g1,g1',abU,w3,w4,cd,cw,lp,lw,e1',qwd,ble,List.set_cons_zero,List.set_cons_succ]
       refine fin _ 0 ((b'.drop z).take y) (b'.drop (z+y)) wd w0 (by rw [List.length_set];exact l1) (fun i hi=>by rw [ae (by omega)];exact f1 i hi) (by rw [ax lt1];rfl) qwd pwd pw (by rw [List.length_drop];omega) (fun c hcc=>hd' c (List.mem_of_mem_drop hcc)) ?_ _ _ _ _ _ _ _ _ _ _ _ _ _ _ _ _ _ _ _ _ _ _
       rw [if_neg t0,if_neg t1,if_pos t2,if_neg (fun c=>c.elim (fun c=>c ok) hl),List.drop_drop,t2]
     ·simp only [sy,List.length_append,Nat.reduceAdd,Nat.reduceMul,Nat.reduceSub,Nat.reduceLeDiff,Nat.reduceEqDiff,Nat.reduceLT,reduceIte,U64,n64,decide_eq_false ok]
      refine bad ?_ H1 (by omega) f1 _ _ _ _ _ _ _ _ _ _ _ _ _ _ _ _ _ _ _ _ _ _ _ _ _
      rw [if_neg t0,if_neg t1,if_pos t2,if_pos (.inl ok)]
    simp only [sy,List.length_append,Nat.reduceAdd,Nat.reduceMul,Nat.reduceSub,Nat.reduceLeDiff,Nat.reduceEqDiff,Nat.reduceLT,reduceIte,d1,decide_eq_false t1,d5,decide_eq_false t5,np,d2,decide_eq_false t2]
    refine bad ?_ H1 (by omega) f1 _ _ _ _ _ _ _ _ _ _ _ _ _ _ _ _ _ _ _ _ _ _ _ _ _
    rw [if_neg t0,if_neg t1,if_neg t2,if_neg t5]
theorem ags {v0:AV} {b:List Nat} (hp:dj v0 (aR b)) (hb:b.length≤1000) (hd: ∀c∈b,c<256) (f:Nat) (hf:2000≤f):
 aC (fun r h'=>h.length≤h'.length∧(∀i,i<h.length→aa h' i=aa h i)∧match dW (b.length+1) b with
  |none=>r= .tup [.nils,.bool false]
  |some L=>∃v,r= .tup [v,.bool true]∧arl h.length h h' v L) ((rl (CL mx) f).run 9 [v0] h):=by
 obtain ⟨f,rfl⟩: ∃g,f=g+1:=⟨f-1,by omega⟩
 refine aC.runs (n:=f) (akI mx _ _ _ _) ?_
 refine wEq (ahx ..) ?_
 refine wEq (afM ..) ?_
 refine aj2 (mx:=mx) (n0:=h.length) (h0:=h) (b.length+1) b [] f h v0 .nils _ _ _ _ _ _ _ _ _ _ _ _ _ _ _ _ _ _ _ _ _ _ _ (by omega) (by omega) (by omega) hd (by simp;omega) hp ⟨⟨[],OwR.nil,rfl,fun i r x hi=>by simp at hi⟩,Nat.le_refl _,fun _ _=>rfl⟩ ?_ ?_
 ·intro L hL h' v0 v4 v5 v6 v7 v8 v9 v10 v11 v12 v13 v14 v15 v16 v19 v35 v47 v48 v57 v63 v68 v72 v76 v92 v110 FS
  simp only [vB,decide_true,bqT,afd,pb,zP]
  exact Ends.mk ⟨FS.len,FS.old,by rw [hL];exact ⟨_,rfl,FS⟩⟩
 ·intro hL h' v0 v4 v5 v6 v7 v8 v9 v10 v11 v12 v13 v14 v15 v16 v19 v35 v47 v48 v57 v63 v68 v72 v76 v92 v110 l o
  simp only [akT,pb,zP]
  exact Ends.mk ⟨l,o,by rw [hL]⟩
end
end Go.Proofs.YteapfopaiocpeaaGreatDoor
