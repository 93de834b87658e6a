/- A reader of package scan: a step. The function's code is printed by a program. -/
import Derived.Test.YteapfopaiocpeaaGreatDoorSj
namespace Go.Proofs.YteapfopaiocpeaaGreatDoor
set_option linter.unusedSimpArgs false
set_option linter.unusedVariables false
set_option linter.unnecessarySimpa false
set_option linter.defProp false
noncomputable section
def bD (v0 v1 v4 v5 v6 v7 v8 v18 v23 v28 v32 v38 v50 v63 v71 v76 v84 v107 v124 v138 v152 v185:AV):Tm:=(.nd 38 (.nd 7 (.nd 4 (.nd 1 (.lf 0 v0) (.lf 1 v1)) (.nd 5 (.lf 4 v4) (.nd 6 (.lf 5 v5) (.lf 6 v6)))) (.nd 23 (.nd 8 (.lf 7 v7) (.nd 18 (.lf 8 v8) (.lf 18 v18))) (.nd 28 (.lf 23 v23) (.nd 32 (.lf 28 v28) (.lf 32 v32))))) (.nd 84 (.nd 63 (.nd 50 (.lf 38 v38) (.lf 50 v50)) (.nd 71 (.lf 63 v63) (.nd 76 (.lf 71 v71) (.lf 76 v76)))) (.nd 138 (.nd 107 (.lf 84 v84) (.nd 124 (.lf 107 v107) (.lf 124 v124))) (.nd 152 (.lf 138 v138) (.nd 185 (.lf 152 v152) (.lf 185 v185))))))
def ac1 (mx:Int):K:=kAt [] (kOf (CL mx) 113)
def ajG (mx:Int):K:=kAt [1,1,0] (kOf (CL mx) 113)
def akw (mx:Int):K:=kAt [1,1,1] (kOf (CL mx) 113)
def ame (mx:Int):K:=kAt [1,1,0,1,0,1,1,1,1,0] (kOf (CL mx) 113)
def alh (mx:Int):K:=kAt [1,1,0,1,0,1,1,1,1,1] (kOf (CL mx) 113)
def aqU (mx:Int):K:=kAt [1,1,0,1,0,1,1,1,1,1,1,1,0] (kOf (CL mx) 113)
def aiF (mx:Int):K:=kAt [1,1,0,1,0,1,1,1,1,1,1,1,1,1,0,1,0] (kOf (CL mx) 113)
def alB (mx:Int):K:=kAt [1,1,0,1,0,1,1,1,1,1,1,1,1,1,0,1,1] (kOf (CL mx) 113)
def aqi (mx:Int):K:=kAt [1,1,0,1,0,1,1,1,1,1,1,1,1,1,1,1,1,1,0,0] (kOf (CL mx) 113)
def aqF (mx:Int):K:=kAt [1,1,0,1,0,1,1,1,1,1,1,1,1,1,1,1,1,1,0,1] (kOf (CL mx) 113)
def ad5 (mx:Int):K:=kAt [1,1,0,1,0,1,1,1,1,1,1,1,1,1,1,1,1,1,1,1,0,1] (kOf (CL mx) 113)
def anC (mx:Int):K:=kAt [1,1,0,1,0,1,1,1,1,1,1,1,1,1,1,1,1,1,1,1,1,1,0] (kOf (CL mx) 113)
def anz (mx:Int):K:=kAt [1,1,0,1,0,1,1,1,1,1,1,1,1,1,1,1,1,1,1,1,1,1,1,1,0] (kOf (CL mx) 113)
def aoe (mx:Int):K:=kAt [1,1,0,1,0,1,1,1,1,1,1,1,1,1,1,1,1,1,1,1,1,1,1,1,1,1,0,0] (kOf (CL mx) 113)
def ank (mx:Int):K:=kAt [1,1,0,1,0,1,1,1,1,1,1,1,1,1,1,1,1,1,1,1,1,1,1,1,1,1,0,1] (kOf (CL mx) 113)
def xh:List AV:=[.int 9223372036854775807 0,.int 9223372036854775807 0,.int 9223372036854775807 0,.bool false,.int 18446744073709551615 0,.int 18446744073709551615 0,.int 18446744073709551615 0,.int 18446744073709551615 0,.nils,.int 255 0,.int 255 0,.int 255 0,.int 255 0,.int 255 0,.int 255 0,.int 255 0,.int 255 0,.int 255 0,.int 255 0,.int 255 0,.int 255 0,.int 255 0,.int 255 0,.int 255 0,.int 255 0,.int 255 0,.int 255 0,.int 255 0,.int 255 0,.int 255 0,.int 255 0,.int 255 0,.int 255 0,.int 255 0,.int 255 0,.int 255 0,.int 255 0,.int 255 0,.int 255 0,.int 255 0,.int 255 0,.int 255 0,.int 255 0,.int 255 0,.int 255 0,.int 255 0,.int 255 0,.int 255 0,.int 255 0,.int 255 0,.int 255 0,.int 255 0,.int 255 0,.int 255 0,.int 255 0,.int 255 0,.int 255 0,.int 255 0,.int 255 0,.int 255 0,.int 255 0,.int 255 0,.int 255 0,.int 255 0,.int 255 0,.int 255 0,.int 255 0,.int 255 0,.int 255 0,.int 255 0,.int 255 0,.int 255 0,.int 255 0,.int 255 0,.int 255 0,.int 255 0,.int 255 0,.int 255 0,.int 255 0,.int 255 0,.int 255 0,.int 255 0,.int 255 0,.int 255 0,.int 255 0,.int 255 0,.int 255 0,.int 255 0,.int 255 0,.int 255 0,.int 255 0,.int 255 0,.int 255 0,.int 255 0,.int 255 0,.int 255 0,.int 255 0,.int 255 0,.int 255 0,.int 255 0,.int 255 0,.int 255 0,.int 255 0,.int 255 0,.int 255 0,.int 255 0,.int 255 0,.int 255 0,.int 255 0,.int 255 0,.int 255 0,.int 255 0,.int 255 0,.int 255 0,.int 255 0,.int 255 0,.int 255 0,.int 255 0,.int 255 0,.int 255 0,.int 255 0,.int 255 0,.int 255 0,.int 255 0,.int 255 0,.int 255 0,.int 255 0,.int 255 0,.int 255 0,.int 255 0,.int 255 0,.int 255 0,.int 255 0,.int 255 0,.int 255 0,.int 255 0,.int 255 0,.int 255 0,.int 255 0,.int 255 0,.int 255 0,.int 255 0,.int 255 0,.int 255 0,.int 255 0,.int 255 0,.int 255 0,.int 255 0,.int 255 0,.int 255 0,.int 255 0,.int 255 0,.int 255 0,.int 255 0,.int 255 0,.int 255 0,.int 255 0,.int 255 0,.int 255 0,.int 255 0,.int 255 0,.int 255 0,.int 255 0,.int 255 0,.int 255 0,.int 255 0,.int 255 0,.int 255 0,.int 255 0,.int 255 0,.int 255 0,.int 255 0,.int 255 0,.int 255 0,.int 255 0,.int 255 0,.int 255 0,.int 255 0,.int 255 0,.int 255 0,.int 255 0,.int 255 0,.int 255 0,.int 255 0,.int 255 0,.int 255 0,.int 255 0,.int 255 0,.int 255 0,.int 255 0,.int 255 0,.int 255 0,.int 255 0,.int 255 0,.int 255 0,.int 255 0,.int 255 0,.int 255 0,.int 255 0,.int 255 0,.int 255 0,.int 255 0,.int 255 0,.int 255 0,.int 255 0,.int 255 0,.int 255 0,.int 255 0,.int 255 0,.int 255 0,.int 255 0,.int 255 0,.int 255 0,.int 255 0,.int 255 0,.int 255 0,.int 255 0,.int 255 0,.int 255 0,.int 255 0,.int 255 0,.int 255 0,.int 255 0,.int 255 0,.int 255 0,.int 255 0,.int 255 0,.int 255 0,.int 255 0,.int 255 0,.int 255 0,.int 255 0,.int 255 0,.int 255 0,.int 255 0,.int 255 0,.int 255 0,.int 255 0,.int 255 0,.int 255 0,.int 255 0,.int 255 0,.int 255 0,.int 255 0,.int 255 0,.int 255 0,.int 255 0,.int 255 0,.int 255 0,.int 255 0,.int 255 0,.int 255 0,.int 255 0,.int 255 0,.int 255 0,.int 255 0,.int 255 0,.int 255 0,.int 255 0,.int 255 0,.int 255 0,.int 255 0,.int 255 0,.int 255 0,.int 255 0]
section
set_option maxRecDepth 100000
variable (mx:Int) (run:Run) (lp:Lp) (κn:Kt) (κx:Ex→Kt) (h:AH) (v0 v1 v4 v5 v6 v7 v8 v18 v23 v28 v32 v38 v50 v63 v71 v76 v84 v107 v124 v138 v152 v185:AV)
theorem agA:kc (CL mx) run lp (ac1 mx) ⟨bD v0 v1 v4 v5 v6 v7 v8 v18 v23 v28 v32 v38 v50 v63 v71 v76 v84 v107 v124 v138 v152 v185,h⟩ κn κx=aC v0 h (fun a0 h=>ao 0 a0 h (fun a1 h=>ao 0 a1 h (fun a2 h=>ar a2 h (fun a3 h=>bT 265 a3 v1 h (fun a4 h=>aQ 265 a4 h (fun a5 h=>dY h (.cells xh 309) (fun a6 h=>aK 265 a6 a5 h (fun a7 h=>kc (CL mx) run lp (ajG mx) ⟨bD v0 v1 (.int 9223372036854775807 0) a6 v6 v7 v8 v18 v23 v28 v32 v38 v50 v63 v71 v76 v84 v107 v124 v138 v152 v185,h⟩ (fun s=>kc (CL mx) run lp (akw mx) s κn κx) κx)))))))):=by kernel_rfl
theorem gG:kc (CL mx) run lp (ajG mx) ⟨bD v0 v1 v4 v5 v6 v7 v8 v18 v23 v28 v32 v38 v50 v63 v71 v76 v84 v107 v124 v138 v152 v185,h⟩ κn κx=ao 0 v5 h (fun a0 h=>ar a0 h (fun a1 h=>cmp cj a1 (.int 9223372036854775807 1) h (fun a2 h=>bG a2 (gU (placeOf (CL mx) [(0,40),(1,4),(2,22),(3,67)]) [.int 18446744073709551615 0,.bool false,.nils,.nils] [] h (fun a3 h=>aL (fun a4 h=>κn ⟨bD v0 v1 v4 v5 v6 v7 v8 a1 a2 v28 v32 v38 v50 v63 v71 v76 v84 v107 v124 v138 v152 v185,h⟩) (aD (CL mx) run 170 [v0,a3] h))) (cmp cj a1 (.int 9223372036854775807 2) h (fun a3 h=>bG a3 (aL (fun a4 h=>κn ⟨bD v0 v1 v4 v5 v6 v7 v8 a1 a2 a3 v32 v38 v50 v63 v71 v76 v84 v107 v124 v138 v152 v185,h⟩) (aD (CL mx) run 171 [v0] h)) (kc (CL mx) run lp (ame mx) ⟨bD v0 v1 v4 v5 v6 v7 v8 a1 a2 a3 v32 v38 v50 v63 v71 v76 v84 v107 v124 v138 v152 v185,h⟩ (fun s=>kc (CL mx) run lp (alh mx) s κn (kcO 0 κn κx)) (kcO 0 κn κx))))))):=by kernel_rfl
theorem fI:kc (CL mx) run lp (akw mx) ⟨bD v0 v1 v4 v5 v6 v7 v8 v18 v23 v28 v32 v38 v50 v63 v71 v76 v84 v107 v124 v138 v152 v185,h⟩ κn κx=arith fu v1 (.int 9223372036854775807 1) h (fun a0 h=>κx .ret ⟨bD v0 v1 a0 v5 v6 v7 v8 v18 v23 v28 v32 v38 v50 v63 v71 v76 v84 v107 v124 v138 v152 v185,h⟩):=by kernel_rfl
theorem kJ:kc (CL mx) run lp (ame mx) ⟨bD v0 v1 v4 v5 v6 v7 v8 v18 v23 v28 v32 v38 v50 v63 v71 v76 v84 v107 v124 v138 v152 v185,h⟩ κn κx=cmp cj v18 (.int 9223372036854775807 3) h (fun a0 h=>bG a0 (κn ⟨bD v0 v1 v4 v5 v6 v7 v8 v18 v23 v28 a0 v38 v50 v63 v71 v76 v84 v107 v124 v138 v152 v185,h⟩) (cmp cj v18 (.int 9223372036854775807 4) h (fun a1 h=>κn ⟨bD v0 v1 v4 v5 v6 v7 v8 v18 v23 v28 a1 v38 v50 v63 v71 v76 v84 v107 v124 v138 v152 v185,h⟩))):=by kernel_rfl
theorem kD:kc (CL mx) run lp (alh mx) ⟨bD v0 v1 v4 v5 v6 v7 v8 v18 v23 v28 v32 v38 v50 v63 v71 v76 v84 v107 v124 v138 v152 v185,h⟩ κn κx=bG v32 (aQ 265 v5 h (fun a0 h=>aL (fun a1 h=>κn ⟨bD v0 v1 v4 v5 v6 v7 v8 v18 v23 v28 v32 v38 v50 v63 v71 v76 v84 v107 v124 v138 v152 v185,h⟩) (aD (CL mx) run 172 [v0,a0] h))) (cmp cj v18 (.int 9223372036854775807 5) h (fun a0 h=>bG a0 (kc (CL mx) run lp (aqU mx) ⟨bD v0 v1 v4 v5 v6 v7 v8 v18 v23 v28 v32 a0 v50 v63 v71 v76 v84 v107 v124 v138 v152 v185,h⟩ κn κx) (cmp cj v18 (.int 9223372036854775807 6) h (fun a1 h=>bG a1 (gU (placeOf (CL mx) [(0,40),(1,4),(2,22),(3,67)]) [.int 18446744073709551615 0,.bool false,.nils,.nils] [] h (fun a2 h=>aL (fun a3 h=>kc (CL mx) run lp (aiF mx) ⟨bD v0 v1 v4 v5 v6 v7 v8 v18 v23 v28 v32 a0 a1 v63 v71 v76 v84 v107 v124 v138 v152 v185,h⟩ (fun s=>kc (CL mx) run lp (alB mx) s κn κx) κx) (aD (CL mx) run 170 [v0,a2] h))) (cmp cj v18 (.int 9223372036854775807 7) h (fun a2 h=>bG a2 (aQ 265 v5 h (fun a3 h=>aL (fun a4 h=>κn ⟨bD v0 v1 v4 v5 v6 v7 v8 v18 v23 v28 v32 a0 a1 v63 a2 v76 v84 v107 v124 v138 v152 v185,h⟩) (aD (CL mx) run 177 [v0,a3] h))) (cmp cj v18 (.int 9223372036854775807 8) h (fun a3 h=>bG a3 (kc (CL mx) run lp (aqi mx) ⟨bD v0 v1 v4 v5 v6 v7 v8 v18 v23 v28 v32 a0 a1 v63 a2 a3 v84 v107 v124 v138 v152 v185,h⟩ (fun s=>kc (CL mx) run lp (aqF mx) s κn κx) κx) (cmp cj v18 (.int 9223372036854775807 9) h (fun a4 h=>bG a4 (gU (placeOf (CL mx) [(0,40),(1,4),(2,22),(3,67)]) [.int 18446744073709551615 0,.bool false,.nils,.nils] [] h (fun a5 h=>aL (fun a6 h=>kc (CL mx) run lp (ad5 mx) ⟨bD v0 v1 v4 v5 v6 v7 v8 v18 v23 v28 v32 a0 a1 v63 a2 a3 v84 a4 v124 v138 v152 v185,h⟩ κn κx) (aD (CL mx) run 170 [v0,a5] h))) (cmp cj v18 (.int 9223372036854775807 17) h (fun a5 h=>bG a5 (kc (CL mx) run lp (anC mx) ⟨bD v0 v1 v4 v5 v6 v7 v8 v18 v23 v28 v32 a0 a1 v63 a2 a3 v84 a4 a5 v138 v152 v185,h⟩ κn κx) (cmp cj v18 (.int 9223372036854775807 18) h (fun a6 h=>bG a6 (kc (CL mx) run lp (anz mx) ⟨bD v0 v1 v4 v5 v6 v7 v8 v18 v23 v28 v32 a0 a1 v63 a2 a3 v84 a4 a5 a6 v152 v185,h⟩ κn κx) (cmp cj v18 (.int 9223372036854775807 19) h (fun a7 h=>bG a7 (kc (CL mx) run lp (aoe mx) ⟨bD v0 v1 v4 v5 v6 v7 v8 v18 v23 v28 v32 a0 a1 v63 a2 a3 v84 a4 a5 a6 a7 v185,h⟩ (fun s=>kc (CL mx) run lp (ank mx) s κn κx) κx) (aQ 265 v5 h (fun a8 h=>aL (fun a9 h=>κx .ret ⟨bD v0 v1 a9 v5 v6 v7 v8 v18 v23 v28 v32 a0 a1 v63 a2 a3 v84 a4 a5 a6 a7 v185,h⟩) (aD (CL mx) run 180 [v0,v1,a8] h))))))))))))))))))):=by kernel_rfl
theorem wb:kc (CL mx) run lp (aiF mx) ⟨bD v0 v1 v4 v5 v6 v7 v8 v18 v23 v28 v32 v38 v50 v63 v71 v76 v84 v107 v124 v138 v152 v185,h⟩ κn κx=kcR κn κx (fC (sRd [] h (aY v0 h kVH) fun r0=>sRd [r0.v] r0.h' (aC r0.v r0.h' kVH) fun r1=>sRd [r1.v,r0.v] r1.h' (ao 10 r1.v r1.h' kVH) fun r2=>sRd [r2.v,r1.v,r0.v] r2.h' (ar r2.v r2.h' kVH) fun r3=>sRd [r3.v,r2.v,r1.v,r0.v] r3.h' (aY v0 r3.h' kVH) fun r4=>sRd [r4.v,r3.v,r2.v,r1.v,r0.v] r4.h' (aQ 265 v5 r4.h' kVH) fun r5=>sEf [r5.v,r4.v,r3.v,r2.v,r1.v,r0.v] r5.h' (aL kVH (aD (CL mx) run 174 [r4.v,r5.v] r5.h')) fun r6=>sRd [r6.v,r5.v,r4.v,r3.v,r2.v,r1.v,r0.v] r6.h' (aY r3.v r6.h' kVH) fun r7=>sRd [r7.v,r6.v,r5.v,r4.v,r3.v,r2.v,r1.v,r0.v] r7.h' (aY r6.v r7.h' kVH) fun r8=>bq (and (cz r0 (OK.f (.mk (o1 aY (.tr 0))) (CL mx) run r0.σ (bD v0 v1 v4 v5 v6 v7 v8 v18 v23 v28 v32 v38 v50 v63 v71 v76 v84 v107 v124 v138 v152 v185) (cF (aj r0.h) r6.h') kVH)) (and (cz r1 (OK.f (.mk (o1 aC (.st 0))) (CL mx) run r1.σ (bD v0 v1 v4 v5 v6 v7 v8 v18 v23 v28 v32 v38 v50 v63 v71 v76 v84 v107 v124 v138 v152 v185) (cF (aj r1.h) r6.h') kVH)) (and (cz r2 (OK.f (.mk (o1 (ao 10) (.st 0))) (CL mx) run r2.σ (bD v0 v1 v4 v5 v6 v7 v8 v18 v23 v28 v32 v38 v50 v63 v71 v76 v84 v107 v124 v138 v152 v185) (cF (aj r2.h) r6.h') kVH)) (and (cz r3 (OK.f (.mk (o1 ar (.st 0))) (CL mx) run r3.σ (bD v0 v1 v4 v5 v6 v7 v8 v18 v23 v28 v32 v38 v50 v63 v71 v76 v84 v107 v124 v138 v152 v185) (cF (aj r3.h) r6.h') kVH)) (true))))) (some (.st (bD v0 v1 v4 v5 r7.v r8.v v8 v18 v23 v28 v32 v38 v50 v63 v71 v76 v84 v107 v124 v138 v152 v185) r8.h')) none)):=(gL (C:=CL mx) (D:=bC (CL mx) (opsOf (cAt [1,1,0,1,0,1,1,1,1,1,1,1,1,1,0,1,0] (aH (CL mx) 113))).toList (bM (opsOf (cAt [1,1,0,1,0,1,1,1,1,1,1,1,1,1,0,1,0] (aH (CL mx) 113))).toList) 0 (aV (CL mx) (opsOf (cAt [1,1,0,1,0,1,1,1,1,1,1,1,1,1,0,1,0] (aH (CL mx) 113))).toList [] (opsOf (cAt [1,1,0,1,0,1,1,1,1,1,1,1,1,1,0,1,0] (aH (CL mx) 113))).toList)) (pl:=bo (CL mx) (opsOf (cAt [1,1,0,1,0,1,1,1,1,1,1,1,1,1,0,1,0] (aH (CL mx) 113)))) (fl:=flL [0,1,4,5,6,7,8,18,23,28,32,38,50,63,71,76,84,107,124,138,152,185] (opsOf (cAt [1,1,0,1,0,1,1,1,1,1,1,1,1,1,0,1,0] (aH (CL mx) 113))).toList) (by kernel_rfl) _ _ _).trans (by kernel_rfl)
theorem wG:kc (CL mx) run lp (alB mx) ⟨bD v0 v1 v4 v5 v6 v7 v8 v18 v23 v28 v32 v38 v50 v63 v71 v76 v84 v107 v124 v138 v152 v185,h⟩ κn κx=aL (fun a0 h=>bG a0 (aL (fun a1 h=>gU (placeOf (CL mx) [(0,40),(1,4),(2,22),(3,67)]) [.int 18446744073709551615 0,.bool false,.nils,.nils] [(2,a1)] h (fun a2 h=>aL (fun a3 h=>κn ⟨bD v0 v1 v4 v5 v6 v7 v8 v18 v23 v28 v32 v38 v50 a0 v71 v76 v84 v107 v124 v138 v152 v185,h⟩) (aD (CL mx) run 175 [v0,a2] h))) (aD (CL mx) run 176 [v0,v7,v6] h)) (κn ⟨bD v0 v1 v4 v5 v6 v7 v8 v18 v23 v28 v32 v38 v50 a0 v71 v76 v84 v107 v124 v138 v152 v185,h⟩)) (aD (CL mx) run 112 [v0] h):=by kernel_rfl
theorem adk:kc (CL mx) run lp (ad5 mx) ⟨bD v0 v1 v4 v5 v6 v7 v8 v18 v23 v28 v32 v38 v50 v63 v71 v76 v84 v107 v124 v138 v152 v185,h⟩ κn κx=kcR κn κx (fC (sRd [] h (aY v0 h kVH) fun r0=>sRd [r0.v] r0.h' (aY v0 r0.h' kVH) fun r1=>sRd [r1.v,r0.v] r1.h' (aC r1.v r1.h' kVH) fun r2=>sRd [r2.v,r1.v,r0.v] r2.h' (ao 18 r2.v r2.h' kVH) fun r3=>sRd [r3.v,r2.v,r1.v,r0.v] r3.h' (ar r3.v r3.h' kVH) fun r4=>sRd [r4.v,r3.v,r2.v,r1.v,r0.v] r4.h' (aY v0 r4.h' kVH) fun r5=>sRd [r5.v,r4.v,r3.v,r2.v,r1.v,r0.v] r5.h' (aQ 265 v5 r5.h' kVH) fun r6=>sEf [r6.v,r5.v,r4.v,r3.v,r2.v,r1.v,r0.v] r6.h' (aL kVH (aD (CL mx) run 174 [r5.v,r6.v] r6.h')) fun r7=>sMk [r7.v,r6.v,r5.v,r4.v,r3.v,r2.v,r1.v,r0.v] r7.h' (fun h=>fD 1 1 [.int 18446744073709551615 0] [(0,r7.v)] h kVH) fun r8=>sEf [r8.v,r7.v,r6.v,r5.v,r4.v,r3.v,r2.v,r1.v,r0.v] r8.h' (eH 41 1 8 r4.v r8.v r8.h' kVH) fun r9=>sRd [r9.v,r8.v,r7.v,r6.v,r5.v,r4.v,r3.v,r2.v,r1.v,r0.v] r9.h' (aC r0.v r9.h' kVH) fun r10=>sRd [r10.v,r9.v,r8.v,r7.v,r6.v,r5.v,r4.v,r3.v,r2.v,r1.v,r0.v] r10.h' (ao 18 r10.v r10.h' kVH) fun r11=>sEf [r11.v,r10.v,r9.v,r8.v,r7.v,r6.v,r5.v,r4.v,r3.v,r2.v,r1.v,r0.v] r11.h' (cB r11.v r9.v r11.h' kVH) fun r12=>bq (and (cz r0 (OK.f (.mk (o1 aY (.tr 0))) (CL mx) run r0.σ (bD v0 v1 v4 v5 v6 v7 v8 v18 v23 v28 v32 v38 v50 v63 v71 v76 v84 v107 v124 v138 v152 v185) (cF (aj r0.h) r7.h') kVH)) (and (cz r1 (OK.f (.mk (o1 aY (.tr 0))) (CL mx) run r1.σ (bD v0 v1 v4 v5 v6 v7 v8 v18 v23 v28 v32 v38 v50 v63 v71 v76 v84 v107 v124 v138 v152 v185) (cF (aj r1.h) r7.h') kVH)) (and (cz r2 (OK.f (.mk (o1 aC (.st 0))) (CL mx) run r2.σ (bD v0 v1 v4 v5 v6 v7 v8 v18 v23 v28 v32 v38 v50 v63 v71 v76 v84 v107 v124 v138 v152 v185) (cF (aj r2.h) r7.h') kVH)) (and (cz r3 (OK.f (.mk (o1 (ao 18) (.st 0))) (CL mx) run r3.σ (bD v0 v1 v4 v5 v6 v7 v8 v18 v23 v28 v32 v38 v50 v63 v71 v76 v84 v107 v124 v138 v152 v185) (cF (aj r3.h) r7.h') kVH)) (and (cz r4 (OK.f (.mk (o1 ar (.st 0))) (CL mx) run r4.σ (bD v0 v1 v4 v5 v6 v7 v8 v18 v23 v28 v32 v38 v50 v63 v71 v76 v84 v107 v124 v138 v152 v185) (cF (aj r4.h) r7.h') kVH)) (and (cz r0 (OK.f (.mk (o1 aY (.tr 0))) (CL mx) run r0.σ (bD v0 v1 v4 v5 v6 v7 v8 v18 v23 v28 v32 v38 v50 v63 v71 v76 v84 v107 v124 v138 v152 v185) (cF (aj r0.h) r9.h') kVH)) (true))))))) (some (.st (bD v0 v1 v4 v5 v6 v7 v8 v18 v23 v28 v32 v38 v50 v63 v71 v76 v84 v107 v124 v138 v152 v185) r12.h')) none)):=(gL (C:=CL mx) (D:=bC (CL mx) (opsOf (cAt [1,1,0,1,0,1,1,1,1,1,1,1,1,1,1,1,1,1,1,1,0,1] (aH (CL mx) 113))).toList (bM (opsOf (cAt [1,1,0,1,0,1,1,1,1,1,1,1,1,1,1,1,1,1,1,1,0,1] (aH (CL mx) 113))).toList) 0 (aV (CL mx) (opsOf (cAt [1,1,0,1,0,1,1,1,1,1,1,1,1,1,1,1,1,1,1,1,0,1] (aH (CL mx) 113))).toList [] (opsOf (cAt [1,1,0,1,0,1,1,1,1,1,1,1,1,1,1,1,1,1,1,1,0,1] (aH (CL mx) 113))).toList)) (pl:=bo (CL mx) (opsOf (cAt [1,1,0,1,0,1,1,1,1,1,1,1,1,1,1,1,1,1,1,1,0,1] (aH (CL mx) 113)))) (fl:=flL [0,1,4,5,6,7,8,18,23,28,32,38,50,63,71,76,84,107,124,138,152,185] (opsOf (cAt [1,1,0,1,0,1,1,1,1,1,1,1,1,1,1,1,1,1,1,1,0,1] (aH (CL mx) 113))).toList) (by kernel_rfl) _ _ _).trans (by kernel_rfl)
theorem oI:aW (bD v0 v1 v4 v5 v6 v7 v8 v18 v23 v28 v32 v38 v50 v63 v71 v76 v84 v107 v124 v138 v152 v185) 0=v0:=(rfl)
theorem fW:kcE (CL mx) [.tmp 4] ⟨bD v0 v1 v4 v5 v6 v7 v8 v18 v23 v28 v32 v38 v50 v63 v71 v76 v84 v107 v124 v138 v152 v185,h⟩=some (.vh v4 h):=(bJ _ _ _).trans (by kernel_rfl)
theorem ao5:dp (CL mx) 113=some ⟨ac1 mx,[0,1,4,5,6,7,8,18,23,28,32,38,50,63,71,76,84,107,124,138,152,185],194,[.tmp 4]⟩:=by kernel_rfl
end
theorem alq (mx:Int) (run:Run) (lp:Lp) (x0 x1:AV) (h:AH):cW (CL mx) run lp 113 [x0,x1] h=vhO (kc (CL mx) run lp (ac1 mx) ⟨bD x0 x1 .bot .bot .bot .bot .bot .bot .bot .bot .bot .bot .bot .bot .bot .bot .bot .bot .bot .bot .bot .bot,h⟩ (kcE (CL mx) [.tmp 4]) (kcQ (CL mx) [.tmp 4])):=(bK (by kernel_rfl) (ao5 mx) (by kernel_rfl)).trans (by kernel_rfl)
end
section
variable {mx:Int} {m:Nat} {K:RC} {kd:Nat→Nat} {h:AH} {p:Nat} {c:PC} {s:PR}
def ox (m:Nat) (h:AH) (v:AV) (i:Nat) (q:PS):Prop:=∃P wv bs,(∀(k:Nat) (h':AH) (κ:Ka),bT 265 v (.int k (i:Int)) h' κ=κ P h')∧(∀(h':AH),(∀j,j<m→ae h' j=ae h j)→ ∀κ:Ka,aQ 265 P h' κ=κ (.agg (stC q wv bs)) h')∧
 (stC q wv bs).length=265∧aR (stC q wv bs)=true∧RdR h (fun b=>b<m) 2 wv (q.ways.map ie)∧(q.kind=14→bs=aS q.bytes)
def PreK (s:PR):Prop:=∃u r,s.stack=u::r∧r.length≤90000∧ ∀n b d ks,u= .nd n b d ks→ks.length≤90000∧d=[]
def ah6 (q:PS) (s:PR):Prop:=(q.a<0∧q.add<18446744073709551616)∨(q.a<(s.slots.length:Int)∧q.mul=1∧q.add=0∧ ∀x∈s.slots,x<18446744073709551616)
inductive ab6 (c:PC) (q:PS) (s:PR):Prop
 |opn (k:q.kind=1)
 |cls (k:q.kind=2) (t u:PT) (r:List PT) (e:s.stack=t::u::r) (hl:r.length≤90000) (hk: ∀n b d ks,u= .nd n b d ks→ks.length≤90000∧d=[])
 |num (k:(q.kind=3∧1≤q.a∧q.a≤8)∨(q.kind=4∧q.flag=true)) (hb:q.b<(s.slots.length:Int)) (hs:PreK s)
 |vM (k:q.kind=6) (hq:ah6 q s) (hs:PreK s)
 |count (k:q.kind=9) (hq:ah6 q s) (hl:s.counts.length≤100000)
 |jump (k:q.kind=11) (ha:0≤q.a)
 |next (k:q.kind=10) (ha:0≤q.a) (h0:s.counts≠[]) (hl:s.counts.length≤100000) (hn: ∀n∈s.counts,n<18446744073709551616)
 |many (k:q.kind=12) (ha:0≤q.a)
 |pick (k:q.kind=13) (hl:q.ways.length≤1000000) (ha:0≤q.a) (hs:q.a<(s.slots.length:Int)) (hx: ∀x∈s.slots,x<18446744073709551616)
 |call (k:q.kind=15) (ha:0≤q.a) (hl:s.calls.length≤100000)
 |ret (k:q.kind=16) (h0:s.calls≠[]) (hl:s.calls.length≤100000)
 |fin (k:q.kind=20)
 |choice (k:q.kind=14) (hb8: ∀x∈q.bytes,x<256) (hk: ∀x∈q.bytes,x≤q.ways.length) (hl:q.ways.length≤1000)
theorem ab6.om {q:PS} {wv:AV} {bs:List AV} (P:ab6 c q s) (hbb:q.kind=14→bs=aS q.bytes) (hw:RdR h (fun b=>b<m) 2 wv (q.ways.map ie)) (k1:q.kind≠1) (k2:q.kind≠2) (k3:q.kind≠3) (k4:q.kind≠4) (k6:q.kind≠6) (k9:q.kind≠9):PreT m h wv bs q s:=by
 cases P with
 |opn k=>exact absurd k k1
 |cls k=>exact absurd k k2
 |num k=>rcases k with k|k
         ·exact absurd k.1 k3
         ·exact absurd k.1 k4
 |vM k=>exact absurd k k6
 |count k=>exact absurd k k9
 |jump k ha=>exact .inl ⟨k,ha⟩
 |next k ha h0 hl hn=>exact .inr (.inl ⟨k,ha,h0,hl,hn⟩)
 |many k ha=>exact .inr (.inr (.inl ⟨k,ha⟩))
 |pick k hl ha hs hx=>exact .inr (.inr (.inr (.inl ⟨k,hw,hl,ha,hs,hx⟩)))
 |call k ha hl=>exact .inr (.inr (.inr (.inr (.inl ⟨k,ha,hl⟩))))
 |ret k h0 hl=>exact .inr (.inr (.inr (.inr (.inr (.inl ⟨k,h0,hl⟩)))))
 |fin k=>exact .inr (.inr (.inr (.inr (.inr (.inr (.inl k))))))
 |choice k hb8 hk hl=>exact .inr (.inr (.inr (.inr (.inr (.inr (.inr ⟨k,hbb k,hw,hb8,hk,hl⟩))))))
theorem oK {σ:List AV} {h:AH} {q:AH→Option Rs} {k:Tr→Option Rs} {v:Nat→AV} {b:Option Blk} (hq: ∀h:AH,q h=some (.vh (v h.length) (h++[b]))):sMk σ h q k=k ⟨σ,h,v h.length,h++[b]⟩:=by
 have e:q (cr (aj h) none)=some (.vh (v h.length) (List.replicate h.length none++[b])):=by
  rw [hq,iJ,ah,List.length_replicate]
 unfold sMk
 rw [e]
 show au (bq (and (Nat.ble (aj h) (aj (List.replicate h.length none++[b]))) (Nat.ble (aj (List.replicate h.length none++[b])) (Nat.succ (aj h)))) (some ⟨σ,h,v h.length,aJ h (cJ (aj h) (List.replicate h.length none++[b]))⟩) none) k=_
 have l1:aj (List.replicate h.length none++[b])=h.length+1:=by rw [ah];simp
 rw [l1,ah,bL,bL,decide_eq_true (show h.length≤h.length+1 by omega),decide_eq_true (show h.length+1≤Nat.succ h.length from Nat.le_refl _),aP,ba]
 have:(List.replicate h.length (none:Option Blk)++[b]).drop h.length=[b]:=by
  rw [List.drop_append_of_le_length (by simp),List.drop_of_length_le (by simp)];rfl
 rw [this];rfl
theorem apo (σ:List AV) (h:AH) (z:AV) (n:Nat) (a:Int) (k:Tr→Option Rs):sMk σ h (fun h=>fD 1 1 [z] [(0,.int n a)] h kVH) k=k ⟨σ,h,.slo h.length 0 1 1 1 true,h++[some (.cells [.int n a] 0)]⟩:=oK (v:=fun m=>.slo m 0 1 1 1 true) fun h=>by rw [alc];rfl
theorem Nx.le {n n':Nat} {h':AH} (nx:Nx n m K kd h p c s h') (hn:n'≤n):Nx n' m K kd h p c s h':=by
 obtain ⟨kd',R',l',f'⟩:=nx
 exact ⟨kd',R',l',fun i hi=>f' i (by omega)⟩
theorem afm (R:RS m K kd h p c s) (W:Wf c s) (W1:Wf c (s.open_ c)) {q:PS} {i:Nat} (hi:i≤1000000) (A:ox m h K.p0 i q) (P:ab6 c q s) (f:Nat):
 aG (fun x h'=>x= .int 9223372036854775807 (stI (s.step c q i).1)∧Nx h.length m K kd h p c (s.step c q i).2 h') ((rl (CL mx) (f+q.ways.length+100)).run 113 [.pto p 0,.int 9223372036854775807 (i:Int)] h):=by
 obtain ⟨Pt,wv,bs,ix,lG',hbs,hpl,hw,hbb⟩:=A
 refine aG.runs (n:=f+q.ways.length+99) (alq mx _ _ _ _ _) ?_
 obtain ⟨stp0,y0,sl0,st0,ct0,cl0,QQ0,hp00,_⟩:=R.ex
 unfold rdL at hp00
 have lG:=fun κ=>lG' h (fun _ _=>rfl) κ
 have sto: ∀κ:Ka,aK 265 (.pto h.length 0) (.agg (stC q wv bs)) (h++[some (.cells xh (308+1))]) κ=κ (.tup []) (h++[some (.cells (stC q wv bs) (308+1))]):=fun κ=>cY (by kernel_rfl) hbs hpl
 have hz:=aI h (some (Blk.cells (stC q wv bs) (308+1)))
 have R0:=R.grow (h':=h++[some (Blk.cells (stC q wv bs) (308+1))]) (by simp) (fun i hi=>aq hi _)
 have fz: ∀i,i<h.length→ae (h++[some (Blk.cells (stC q wv bs) (308+1))]) i=ae h i:=fun i hi=>aq hi _
 have hl0:(h++[some (Blk.cells (stC q wv bs) (308+1))]).length=h.length+1:=by simp
 have k0:cN kd h.length 0 h.length=0:=fP (Nat.le_refl _)
 have gl:decide (265≤(stC q wv bs).length)=true:=by rw [hbs];rfl
 have tk:List.take 265 (stC q wv bs)=stC q wv bs:=by rw [←hbs,List.take_length]
 have f0:h.length≤(h++[some (Blk.cells (stC q wv bs) (308+1))]).length∧ ∀i,i<h.length→kd i=0→ae (h++[some (Blk.cells (stC q wv bs) (308+1))]) i=ae h i∧cN kd h.length 0 i=0:=⟨by omega,fun i hi h0=>⟨fz i hi,by rw [bR hi];exact h0⟩⟩
 have w1:aZ 9223372036854775807 ((i:Int)+1)=((i+1:Nat):Int):=by rw [bd (by omega) (by omega)];simp
 have hw0:RdR (h++[some (Blk.cells (stC q wv bs) (308+1))]) (fun b=>b<m) 2 wv (q.ways.map ie):=hw.mono fun b hb hs=>⟨hs,fz b hb⟩
 simp only [sy,List.length_append,Nat.reduceAdd,Nat.reduceMul,Nat.reduceSub,Nat.reduceLeDiff,Nat.reduceEqDiff,Nat.reduceLT,reduceIte,agA,hp00,ix,lG,dC,sto]
 generalize h++[some (Blk.cells (stC q wv bs) (308+1))]=h0 at*
 have fin: ∀{s':PR} {h':AH},Nx h0.length m K (cN kd h.length 0) h0 p c s' h'→Nx h.length m K kd h p c s' h':=fun nx=>by
  obtain ⟨kd',R',l',f'⟩:=nx
  exact ⟨kd',R',by omega,fun i hi hi0=>⟨(f' i (by omega) (f0.2 i hi hi0).2).1.trans (fz i hi),(f' i (by omega) (f0.2 i hi hi0).2).2⟩⟩
 by_cases k1:q.kind=1
 ·have k':(q.kind:Int)=1:=by omega
  have e:s.step c q i=(some (i+1),s.open_ c):=by unfold PR.step;simp [k1]
  rw [e]
  simp only [sy,List.length_append,Nat.reduceAdd,Nat.reduceMul,Nat.reduceSub,Nat.reduceLeDiff,Nat.reduceEqDiff,Nat.reduceLT,reduceIte,gG,hz,eK,k',decide_true]
  refine wEq (eB (cs:=[.int 18446744073709551615 0,.bool false,.nils,.nils]) (by kernel_rfl)) ?_
  refine bE (kF R0 W (f+q.ways.length+97)).call ?_
  rintro x h1 ⟨rfl,nx⟩
  simp only [sy,List.length_append,Nat.reduceAdd,Nat.reduceMul,Nat.reduceSub,Nat.reduceLeDiff,Nat.reduceEqDiff,Nat.reduceLT,reduceIte,fI,w1,fW]
  exact Ends.mk ⟨rfl,fin nx⟩
 by_cases k2:q.kind=2
 ·have k':(q.kind:Int)=2:=by omega
  have e:s.step c q i=(some (i+1),s.close):=by unfold PR.step;simp [k2]
  rw [e]
  cases P with
  |cls k t u r e' hl hk=>
   simp only [sy,List.length_append,Nat.reduceAdd,Nat.reduceMul,Nat.reduceSub,Nat.reduceLeDiff,Nat.reduceEqDiff,Nat.reduceLT,reduceIte,gG,hz,eK,k',Int.reduceEq,decide_true,decide_false]
   refine bE (tQ R0 e' hl hk (f+q.ways.length+98)).call ?_
   rintro x h1 ⟨rfl,nx⟩
   simp only [sy,List.length_append,Nat.reduceAdd,Nat.reduceMul,Nat.reduceSub,Nat.reduceLeDiff,Nat.reduceEqDiff,Nat.reduceLT,reduceIte,fI,w1,fW]
   exact Ends.mk ⟨rfl,fin nx⟩
  |num k=>rcases k with k|k<;>omega
  |_=>omega
 by_cases k3:q.kind=3∨q.kind=4
 ·have e:s.step c q i=(some (i+1),s.number c q):=by unfold PR.step;simp [k1,k2,k3]
  rw [e]
  cases P with
  |num k hb hs=>
   obtain ⟨u,r,e',hl,hk⟩:=hs
   have ng:=ahq (mx:=mx) R0 W W1 hbs hpl k hb e' hl hk (f+q.ways.length+59)
   rcases k with ⟨k,_⟩|⟨k,_⟩
   ·have k':(q.kind:Int)=3:=by omega
    simp only [sy,List.length_append,Nat.reduceAdd,Nat.reduceMul,Nat.reduceSub,Nat.reduceLeDiff,Nat.reduceEqDiff,Nat.reduceLT,reduceIte,gG,kJ,kD,hz,eK,k',Int.reduceEq,decide_true,decide_false,gl,tk]
    refine bE ng.call ?_
    rintro x h1 ⟨rfl,nx⟩
    simp only [sy,List.length_append,Nat.reduceAdd,Nat.reduceMul,Nat.reduceSub,Nat.reduceLeDiff,Nat.reduceEqDiff,Nat.reduceLT,reduceIte,fI,w1,fW]
    exact Ends.mk ⟨rfl,fin nx⟩
   ·have k':(q.kind:Int)=4:=by omega
    simp only [sy,List.length_append,Nat.reduceAdd,Nat.reduceMul,Nat.reduceSub,Nat.reduceLeDiff,Nat.reduceEqDiff,Nat.reduceLT,reduceIte,gG,kJ,kD,hz,eK,k',Int.reduceEq,decide_true,decide_false,gl,tk]
    refine bE ng.call ?_
    rintro x h1 ⟨rfl,nx⟩
    simp only [sy,List.length_append,Nat.reduceAdd,Nat.reduceMul,Nat.reduceSub,Nat.reduceLeDiff,Nat.reduceEqDiff,Nat.reduceLT,reduceIte,fI,w1,fW]
    exact Ends.mk ⟨rfl,fin nx⟩
  |_=>omega
 by_cases k6:q.kind=6
 ·have k':(q.kind:Int)=6:=by omega
  have e:s.step c q i=(some (i+1),s.vM c q):=by unfold PR.step;simp [k6]
  rw [e]
  simp only [sy,List.length_append,Nat.reduceAdd,Nat.reduceMul,Nat.reduceSub,Nat.reduceLeDiff,Nat.reduceEqDiff,Nat.reduceLT,reduceIte,gG,kJ,kD,hz,eK,k',Int.reduceEq,decide_true,decide_false]
  refine wEq (eB (cs:=[.int 18446744073709551615 0,.bool false,.nils,.nils]) (by kernel_rfl)) ?_
  refine bE (kF R0 W (f+q.ways.length+97)).call ?_
  rintro x h1 ⟨rfl,kd1,R1,l1,f1⟩
  have e1:=f1 h.length (by omega) k0
  have hz1:=e1.1.trans hz
  have hsl1:=oQ c s
  have hst1:=pc c s
  cases P with
  |vM k hq hs=>
   obtain ⟨u,r,e',hl,hk⟩:=hs
   rw [e'] at hst1
   have fin1: ∀{s':PR} {h':AH},Nx h.length m K kd1 h1 p c s' h'→Nx h.length m K kd h p c s' h':=fun nx=>by
    obtain ⟨kd',R',l',f'⟩:=nx
    refine ⟨kd',R',by omega,fun i hi hi0=>?_⟩
    have a:=f1 i (by omega) (f0.2 i hi hi0).2
    exact ⟨(f' i hi a.2).1.trans (a.1.trans (fz i hi)),(f' i hi a.2).2⟩
   have hbl:s.vM c q=if (s.open_ c).code≠0 then s.open_ c else ((s.open_ c).take c ((s.open_ c).many q) (s.open_ c).at_).2.leaf (.nd 0 false ((s.open_ c).take c ((s.open_ c).many q) (s.open_ c).at_).1 []):=rfl
   rw [hbl]
   generalize s.open_ c=s1 at*
   have hm:s1.many q≤18446744073709551615:=by
    unfold PR.many
    rcases hq with ⟨h1,h2⟩|⟨h1,h2,h3,h4⟩
    ·rw [if_pos h1];omega
    ·by_cases ha:q.a<0
     ·rw [if_pos ha];omega
     ·rw [if_neg ha,hsl1]
      have:s.slots.getD q.a.toNat 0=s.slots[q.a.toNat]'(by omega):=by
       rw [List.getD_eq_getElem?_getD,List.getElem?_eq_getElem (by omega)];rfl
      rw [this]
      have:=h4 _ (List.getElem_mem (l:=s.slots) (n:=q.a.toNat) (by omega))
      omega
   obtain ⟨x,h2,el,ex,l2,f2⟩:=aG.call (C:=CL mx) (xI (mx:=mx) R1 hbs hpl (by rw [hsl1];rcases hq with ⟨h1,_⟩|h1;exact .inl h1;exact .inr h1) (f+q.ways.length+95))
   rw [ex] at el
   have R2:=R1.grow l2 f2
   obtain ⟨stp1,y1,sl1,st1,ct1,cl1,QQ1,hp1,_⟩:=R1.ex
   unfold rdL at hp1
   have hpl1:=aO hp1
   have gf:ae (cF (aj h1) h2) p=ae h1 p:=by rw [rU (by omega) (by rw [ah];exact hpl1)];exact f2 p hpl1
   rw [hp1] at gf
   have ltp: ∀j,AV.lt (aj h1) (.pto p j)=true:=fun j=>by rw [gH,ah,decide_eq_true_iff];exact hpl1
   have lti: ∀(k:Nat) (x:Int),AV.lt (aj h1) (.int k x)=true:=fun k x=>rfl
   have gll:decide (h1.length≤h2.length)=true:=decide_eq_true l2
   have okc:=eC (mx:=mx) R2 (f+q.ways.length+98)
   by_cases hc:s1.code≠0
   ·rw [if_pos hc]
    simp only [sy,List.length_append,Nat.reduceAdd,Nat.reduceMul,Nat.reduceSub,Nat.reduceLeDiff,Nat.reduceEqDiff,Nat.reduceLT,reduceIte,wb,wG,fN,ij,fV,hp1,n64,hz1,eK,gl,tk,el,ji,o1,nq,mz,j2,jU,oI,cV,gf,cT,ltp,lti,gll,Bool.true_and,fB,okc,decide_eq_false hc,fI,w1,fW]
    exact Ends.mk ⟨rfl,fin1 ⟨_,R2,l2,fun i hi hi0=>⟨f2 i (by omega),by rw [bR (by omega)];exact hi0⟩⟩⟩
   ·rw [if_neg hc]
    have hc':s1.code=0:=by omega
    simp only [sy,List.length_append,Nat.reduceAdd,Nat.reduceMul,Nat.reduceSub,Nat.reduceLeDiff,Nat.reduceEqDiff,Nat.reduceLT,reduceIte,wb,wG,fN,ij,fV,hp1,n64,hz1,eK,gl,tk,el,ji,o1,nq,mz,j2,jU,oI,cV,gf,cT,ltp,lti,gll,Bool.true_and,fB,okc,decide_eq_true hc']
    refine bE (rR R2 W1 (n:=s1.many q) (a:=s1.at_) hm W1.at_ (f+q.ways.length+97)).call ?_
    rintro dv h3 ⟨kd3,b0,hd,R3,l3,f3,hb0,hbl⟩
    have tk3:=uL c s1 (s1.many q) s1.at_
    have hml:=R.ml
    have hdv:dv= .nils∨ ∃b l e,dv= .slo b 0 l l 1 e:=by
     rcases hd with ⟨_,rfl⟩|⟨_,b,e,y,rfl,_,_⟩
     ·exact .inl rfl
     ·exact .inr ⟨_,_,_,rfl⟩
    rcases hdv with rfl|⟨b,l,e,rfl⟩
    ·refine wEq (eB (cs:=[.int 18446744073709551615 ((0:Nat):Int),.bool false,.nils,.nils]) (by kernel_rfl)) ?_
     refine bE (qY R3 (tk3.2.1.trans hst1) hl hk (nn:=0) (b0:=b0) (n0:=h.length) hd hb0 hml (by omega) (by omega) (f+q.ways.length+97)).call ?_
     rintro x h4 ⟨rfl,nx⟩
     simp only [sy,List.length_append,Nat.reduceAdd,Nat.reduceMul,Nat.reduceSub,Nat.reduceLeDiff,Nat.reduceEqDiff,Nat.reduceLT,reduceIte,fI,w1,fW]
     refine Ends.mk ⟨rfl,fin1 (Nx.pre ⟨by omega,fun i hi hi0=>?_⟩ nx)⟩
     have a:=f3 i (by omega) (by rw [bR (by omega)];exact hi0)
     exact ⟨a.1.trans (f2 i (by omega)),a.2⟩
    ·refine wEq (eB (cs:=[.int 18446744073709551615 ((0:Nat):Int),.bool false,.slo b 0 l l 1 e,.nils]) (by kernel_rfl)) ?_
     refine bE (qY R3 (tk3.2.1.trans hst1) hl hk (nn:=0) (b0:=b0) (n0:=h.length) hd hb0 hml (by omega) (by omega) (f+q.ways.length+97)).call ?_
     rintro x h4 ⟨rfl,nx⟩
     simp only [sy,List.length_append,Nat.reduceAdd,Nat.reduceMul,Nat.reduceSub,Nat.reduceLeDiff,Nat.reduceEqDiff,Nat.reduceLT,reduceIte,fI,w1,fW]
     refine Ends.mk ⟨rfl,fin1 (Nx.pre ⟨by omega,fun i hi hi0=>?_⟩ nx)⟩
     have a:=f3 i (by omega) (by rw [bR (by omega)];exact hi0)
     exact ⟨a.1.trans (f2 i (by omega)),a.2⟩
  |num k=>rcases k with k|k<;>omega
  |_=>omega
 by_cases k9:q.kind=9
 ·have k':(q.kind:Int)=9:=by omega
  have e:s.step c q i=(some (i+1),{s.open_ c with counts:=s.many q::s.counts}):=by unfold PR.step;simp [k9]
  rw [e]
  simp only [sy,List.length_append,Nat.reduceAdd,Nat.reduceMul,Nat.reduceSub,Nat.reduceLeDiff,Nat.reduceEqDiff,Nat.reduceLT,reduceIte,gG,kJ,kD,hz,eK,k',Int.reduceEq,decide_true,decide_false]
  refine wEq (eB (cs:=[.int 18446744073709551615 0,.bool false,.nils,.nils]) (by kernel_rfl)) ?_
  refine bE (kF R0 W (f+q.ways.length+97)).call ?_
  rintro x h1 ⟨rfl,kd1,R1,l1,f1⟩
  have e1:=f1 h.length (by omega) k0
  have hz1:=e1.1.trans hz
  have hsl1:=oQ c s
  have hct1:=aaO c s
  cases P with
  |count k hq hl=>
   have fin1: ∀{s':PR} {h':AH},Nx h.length m K kd1 h1 p c s' h'→Nx h.length m K kd h p c s' h':=fun nx=>by
    obtain ⟨kd',R',l',f'⟩:=nx
    refine ⟨kd',R',by omega,fun i hi hi0=>?_⟩
    have a:=f1 i (by omega) (f0.2 i hi hi0).2
    exact ⟨(f' i hi a.2).1.trans (a.1.trans (fz i hi)),(f' i hi a.2).2⟩
   have hmm:s.many q=(s.open_ c).many q:=by unfold PR.many;rw [hsl1]
   rw [hmm,←hct1]
   rw [←hct1] at hl
   clear hmm
   generalize s.open_ c=s1 at*
   obtain ⟨x,h2,el,ex,l2,f2⟩:=aG.call (C:=CL mx) (xI (mx:=mx) R1 hbs hpl (by rw [hsl1];rcases hq with ⟨h1,_⟩|h1;exact .inl h1;exact .inr h1) (f+q.ways.length+95))
   rw [ex] at el
   have R2:=R1.grow l2 f2
   obtain ⟨stp1,y1,sl1,st1,ct1,cl1,QQ1,hp1,p2,p3,pk,p4,p5⟩:=R1.ex
   have hp1':=hp1
   unfold rdL at hp1
   have hpl1:=aO hp1
   obtain ⟨v',h3,a1,a2,a3,a4⟩:=ad6 (h:=h2) (kd:=cN kd1 h1.length 0) (j:=4) (v:=ct1) (x:=U64 (s1.many q)) (p4.mono fun b hb hs=>⟨by rw [bR hb];exact hs,f2 b hb⟩) rfl (by simpa using hl) (40+1) (by_:=8) (by decide)
   rw [show U64 (s1.many q)= .int 18446744073709551615 ((s1.many q:Nat):Int) from rfl] at a1
   have gf:ae (cF (aj h1) h2) p=ae h1 p:=by rw [rU (by omega) (by rw [ah];exact hpl1)];exact f2 p hpl1
   rw [hp1] at gf
   have ltp: ∀j,AV.lt (aj h1) (.pto p j)=true:=fun j=>by rw [gH,ah,decide_eq_true_iff];exact hpl1
   have lti: ∀(k:Nat) (x:Int),AV.lt (aj h1) (.int k x)=true:=fun k x=>rfl
   have gll:decide (h1.length≤h2.length)=true:=decide_eq_true l2
   have gl3:decide (h2.length+1≤h3.length)=true:=decide_eq_true a3
   have hp3:ae h3 p=some (.cells (rdL K c s1 stp1 sl1 st1 ct1 cl1) y1):=by rw [a4 p (by rw [bR hpl1,R1.kp];decide) (by omega),f2 p hpl1];exact hp1'
   have hp3':=hp3
   unfold rdL at hp3'
   have ctl:AV.lt (aj h1) ct1=true:=p4.vlt
   have pl:v'.plain=true:=a2.plain
   simp only [sy,List.length_append,Nat.reduceAdd,Nat.reduceMul,Nat.reduceSub,Nat.reduceLeDiff,Nat.reduceEqDiff,Nat.reduceLT,reduceIte,adk,fN,ij,fV,hp1,n64,hz1,eK,gl,tk,el,ji,o1,nq,mz,j2,jU,oI,cV,gf,cT,ltp,lti,gll,apo,a1,gl3,hp3',pl,ctl,Bool.true_and,fB]
   simp only [sy,List.length_append,Nat.reduceAdd,Nat.reduceMul,Nat.reduceSub,Nat.reduceLeDiff,Nat.reduceEqDiff,Nat.reduceLT,reduceIte,fI,w1,fW]
   let kd2:Nat→Nat:=fun i=>if i<h2.length then cN kd1 h1.length 0 i else if i=h2.length+1 then 4 else 0
   have k2l: ∀i,i<h1.length→kd2 i=kd1 i:=fun i hi=>by show (if i<h2.length then cN kd1 h1.length 0 i else _)=_;rw [if_pos (by omega),bR hi]
   have k2n:kd2 (h2.length+1)=4:=by show (if h2.length+1<h2.length then _ else if h2.length+1=h2.length+1 then 4 else 0)=4;rw [if_neg (by omega),if_pos rfl]
   have fr: ∀i,i<h1.length→kd1 i≠4→i≠p→ ∀Y,ae (h3.set p Y) i=ae h1 i:=fun i hi h4 hip Y=>by rw [ai (Ne.symm hip),a4 i (by rw [bR hi];exact h4) (by omega),f2 i hi]
   have mm: ∀{j:Nat} {Y:Option Blk},j≠1→j≠4→ ∀b',b'<h1.length→kd1 b'=j→kd2 b'=j∧ae (h3.set p Y) b'=ae h1 b':=fun h1' h4' b' hb' e=>⟨by rw [k2l _ hb'];exact e,fr b' hb' (by rw [e];exact h4') (fun cc=>h1' (by rw [←e,cc];exact R1.kp)) _⟩
   have hml:=R1.ml
   refine Ends.mk ⟨rfl,fin1 ⟨kd2,R1.make (s':={s1 with counts:=s1.many q::s1.counts}) (stp':=stp1) (y':=y1) (sl:=sl1) (st:=st1) (ct:=v') (cl:=cl1) (Q:=QQ1) (by rw [k2l p hpl1];exact R1.kp) (fun i hi=>⟨by rw [k2l i (by omega)];exact R1.lo i hi,fr i (by omega) (by rw [R1.lo i hi];decide) (Ne.symm (R1.iI (R1.lo i hi))) _⟩) (by rw [List.length_set];omega) (az (by omega) _) (p2.mono (mm (by decide) (by decide))) (p3.mono (mm (by decide) (by decide))) (pk.mono fun b' hb' h1 _=>⟨k2l b' hb',fr b' hb' (by omega) (fun cc=>by rw [cc,R1.kp] at h1;omega) _⟩) ?_ (p5.mono (mm (by decide) (by decide))),by rw [List.length_set];omega,fun i hi h0'=>⟨fr i (by omega) (by rw [h0'];decide) (Ne.symm (R1.iI h0')) _,by rw [k2l i (by omega)];exact h0'⟩⟩⟩
   have hmp:(List.map (fun n=>[U64 n]) s1.counts.reverse++[[U64 (s1.many q)]])=List.map (fun n=>[U64 n]) (s1.many q::s1.counts).reverse:=by simp
   rw [hmp] at a2
   refine a2.mono fun b' hb' hs'=>?_
   rcases hs' with ⟨hs',hlt⟩|rfl
   ·exact ⟨by show (if b'<h2.length then cN kd1 h1.length 0 b' else _)=4;rw [if_pos hlt];exact hs',ai (fun cc=>by rw [←cc,bR hpl1,R1.kp] at hs';cases hs') _⟩
   ·exact ⟨k2n,ai (by omega) _⟩
  |num k=>rcases k with k|k<;>omega
  |_=>omega
 ·have tg:=ahF (mx:=mx) R0 W W1 hbs hpl (P.om hbb hw0 k1 k2 (fun c=>k3 (.inl c)) (fun c=>k3 (.inr c)) k6 k9) hi (f+79)
  rw [show f+79+q.ways.length+20=f+q.ways.length+99 by omega] at tg
  have hkk:q.kind=10∨q.kind=11∨q.kind=12∨q.kind=13∨q.kind=14∨q.kind=15∨q.kind=16∨q.kind=20:=by
   cases P with
   |num k=>rcases k with k|k<;>omega
   |_=>omega
  have d1:decide ((q.kind:Int)=1)=false:=by rw [decide_eq_false_iff_not];omega
  have d2:decide ((q.kind:Int)=2)=false:=by rw [decide_eq_false_iff_not];omega
  have d3:decide ((q.kind:Int)=3)=false:=by rw [decide_eq_false_iff_not];omega
  have d4:decide ((q.kind:Int)=4)=false:=by rw [decide_eq_false_iff_not];omega
  have d5:decide ((q.kind:Int)=5)=false:=by rw [decide_eq_false_iff_not];omega
  have d6:decide ((q.kind:Int)=6)=false:=by rw [decide_eq_false_iff_not];omega
  have d7:decide ((q.kind:Int)=7)=false:=by rw [decide_eq_false_iff_not];omega
  have d8:decide ((q.kind:Int)=8)=false:=by rw [decide_eq_false_iff_not];omega
  have d9:decide ((q.kind:Int)=9)=false:=by rw [decide_eq_false_iff_not];omega
  have d17:decide ((q.kind:Int)=17)=false:=by rw [decide_eq_false_iff_not];omega
  have d18:decide ((q.kind:Int)=18)=false:=by rw [decide_eq_false_iff_not];omega
  have d19:decide ((q.kind:Int)=19)=false:=by rw [decide_eq_false_iff_not];omega
  simp only [sy,List.length_append,Nat.reduceAdd,Nat.reduceMul,Nat.reduceSub,Nat.reduceLeDiff,Nat.reduceEqDiff,Nat.reduceLT,reduceIte,gG,kJ,kD,hz,eK,d1,d2,d3,d4,d5,d6,d7,d8,d9,d17,d18,d19,gl,tk]
  refine bE tg.call ?_
  rintro x h' ⟨rfl,nx⟩
  simp only [sy,List.length_append,Nat.reduceAdd,Nat.reduceMul,Nat.reduceSub,Nat.reduceLeDiff,Nat.reduceEqDiff,Nat.reduceLT,reduceIte,fW]
  exact Ends.mk ⟨rfl,fin nx⟩
end
end Go.Proofs.YteapfopaiocpeaaGreatDoor
