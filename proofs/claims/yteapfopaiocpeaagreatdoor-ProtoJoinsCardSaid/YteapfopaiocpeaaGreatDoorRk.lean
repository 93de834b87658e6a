/- Package proto's Read: the loop over the records. The functions' code is printed by a program. -/
import Derived.Test.YteapfopaiocpeaaGreatDoorRj
import Derived.Test.YteapfopaiocpeaaGreatDoorPr
namespace Go.Proofs.YteapfopaiocpeaaGreatDoor
set_option linter.unusedSimpArgs false
set_option linter.unusedVariables false
set_option linter.unnecessarySimpa false
set_option linter.defProp false
noncomputable section
def bn (v0 v1 v2 v5 v6 v7 v8 v9 v10 v12 v13 v14 v15 v26 v29 v30 v31 v32 v56:AV):Tm:=(.nd 12 (.nd 6 (.nd 2 (.nd 1 (.lf 0 v0) (.lf 1 v1)) (.nd 5 (.lf 2 v2) (.lf 5 v5))) (.nd 8 (.nd 7 (.lf 6 v6) (.lf 7 v7)) (.nd 9 (.lf 8 v8) (.nd 10 (.lf 9 v9) (.lf 10 v10))))) (.nd 29 (.nd 14 (.nd 13 (.lf 12 v12) (.lf 13 v13)) (.nd 15 (.lf 14 v14) (.nd 26 (.lf 15 v15) (.lf 26 v26)))) (.nd 31 (.nd 30 (.lf 29 v29) (.lf 30 v30)) (.nd 32 (.lf 31 v31) (.nd 56 (.lf 32 v32) (.lf 56 v56))))))
def acy (mx:Int):K:=kAt [] (kOf (CL mx) 7)
def amg (mx:Int):K:=kAt [1,0] (kOf (CL mx) 7)
def ac9 (mx:Int):K:=kAt [1,1] (kOf (CL mx) 7)
def akB (mx:Int):K:=kAt [1,1,0] (kOf (CL mx) 7)
def akO (mx:Int):K:=kAt [1,1,1] (kOf (CL mx) 7)
def akl (mx:Int):K:=kAt [1,1,0,1,0,0] (kOf (CL mx) 7)
def aj5 (mx:Int):K:=kAt [1,1,0,1,0,1] (kOf (CL mx) 7)
def akf (mx:Int):K:=kAt [1,1,1,1,0] (kOf (CL mx) 7)
def ama (mx:Int):K:=kAt [1,1,1,1,1] (kOf (CL mx) 7)
def u7 (mx:Int):K:=kAt [1,1,1,1,0,1,0,0] (kOf (CL mx) 7)
def adx (mx:Int):K:=kAt [1,1,1,1,0,1,0,0,1,1,0] (kOf (CL mx) 7)
def tw (mx:Int):K:=kAt [1,1,1,1,0,1,0,0,1,1,1] (kOf (CL mx) 7)
def afc (mx:Int):K:=kAt [1,1,1,1,0,1,0,0,1,1,0,0,1,0] (kOf (CL mx) 7)
def aeh (mx:Int):K:=kAt [1,1,1,1,0,1,0,0,1,1,0,0,1,1] (kOf (CL mx) 7)
def aeP (mx:Int):K:=kAt [1,1,1,1,0,1,0,0,1,1,0,0,1,1,1,0] (kOf (CL mx) 7)
def yX (mx:Int):K:=kAt [1,1,1,1,0,1,0,0,1,1,0,0,1,1,1,1] (kOf (CL mx) 7)
section
set_option maxRecDepth 100000
variable (mx:Int) (run:Run) (lp:Lp) (κn:Kt) (κx:Ex→Kt) (h:AH) (v0 v1 v2 v5 v6 v7 v8 v9 v10 v12 v13 v14 v15 v26 v29 v30 v31 v32 v56:AV)
theorem ahC:kc (CL mx) run lp (acy mx) ⟨bn v0 v1 v2 v5 v6 v7 v8 v9 v10 v12 v13 v14 v15 v26 v29 v30 v31 v32 v56,h⟩ κn κx=gZ 34 v2 h (fun a0 h=>dY h (.cells [.int 9223372036854775807 0,.int 9223372036854775807 0] 28) (fun a1 h=>kc (CL mx) run lp (amg mx) ⟨bn v0 v1 v2 a0 (.nils) a1 v8 v9 v10 v12 v13 v14 v15 v26 v29 v30 v31 v32 v56,h⟩ (fun s=>kc (CL mx) run lp (ac9 mx) s κn κx) κx)):=by kernel_rfl
theorem afS:kc (CL mx) run lp (amg mx) ⟨bn v0 v1 v2 v5 v6 v7 v8 v9 v10 v12 v13 v14 v15 v26 v29 v30 v31 v32 v56,h⟩ κn κx=kcR κn κx (fC (sRd [] h (aY v0 h kVH) fun r0=>sEf [r0.v] r0.h' (aL kVH (aD (CL mx) run 23 [r0.v] r0.h')) fun r1=>sRd [r1.v,r0.v] r1.h' (aY v1 r1.h' kVH) fun r2=>sRd [r2.v,r1.v,r0.v] r2.h' (aQ 3 v5 r2.h' kVH) fun r3=>sEf [r3.v,r2.v,r1.v,r0.v] r3.h' (aL kVH (aD (CL mx) run 24 [r1.v,r2.v,r3.v] r3.h')) fun r4=>sRd [r4.v,r3.v,r2.v,r1.v,r0.v] r4.h' (aY r4.v r4.h' kVH) fun r5=>sRd [r5.v,r4.v,r3.v,r2.v,r1.v,r0.v] r5.h' (eO 0 r5.v r5.h' kVH) fun r6=>sRd [r6.v,r5.v,r4.v,r3.v,r2.v,r1.v,r0.v] r6.h' (eO 1 r5.v r6.h' kVH) fun r7=>sMk [r7.v,r6.v,r5.v,r4.v,r3.v,r2.v,r1.v,r0.v] r7.h' (fun h=>dY h (.cells [.int 18446744073709551615 0,.bool false,.nils,.nils] 70) kVH) fun r8=>sMk [r8.v,r7.v,r6.v,r5.v,r4.v,r3.v,r2.v,r1.v,r0.v] r8.h' (fun h=>dY h (.cells [.int 9223372036854775807 0,.int 9223372036854775807 0] 28) kVH) fun r9=>sEf [r9.v,r8.v,r7.v,r6.v,r5.v,r4.v,r3.v,r2.v,r1.v,r0.v] r9.h' (aK 4 r8.v r6.v r9.h' kVH) fun r10=>sEf [r10.v,r9.v,r8.v,r7.v,r6.v,r5.v,r4.v,r3.v,r2.v,r1.v,r0.v] r10.h' (aK 2 r9.v r7.v r10.h' kVH) fun r11=>bq (and (cz r2 (OK.f (.mk (o1 aY (.tr 1))) (CL mx) run r2.σ (bn v0 v1 v2 v5 v6 v7 v8 v9 v10 v12 v13 v14 v15 v26 v29 v30 v31 v32 v56) (cF (aj r2.h) r1.h) kVH)) (and (cz r3 (OK.f (.mk (o1 (aQ 3) (.tr 5))) (CL mx) run r3.σ (bn v0 v1 v2 v5 v6 v7 v8 v9 v10 v12 v13 v14 v15 v26 v29 v30 v31 v32 v56) (cF (aj r3.h) r1.h) kVH)) (and (cz r7 (OK.f (.mk (o1 (eO 1) (.st 1))) (CL mx) run r7.σ (bn v0 v1 v2 v5 v6 v7 v8 v9 v10 v12 v13 v14 v15 v26 v29 v30 v31 v32 v56) (cF (aj r7.h) r10.h') kVH)) (true)))) (some (.st (bn v0 v1 v2 v5 v6 v7 r8.v r9.v v10 v12 v13 v14 v15 v26 v29 v30 v31 v32 v56) r11.h')) none)):=(gL (C:=CL mx) (D:=bC (CL mx) (opsOf (cAt [1,0] (aH (CL mx) 7))).toList (bM (opsOf (cAt [1,0] (aH (CL mx) 7))).toList) 0 (aV (CL mx) (opsOf (cAt [1,0] (aH (CL mx) 7))).toList [] (opsOf (cAt [1,0] (aH (CL mx) 7))).toList)) (pl:=bo (CL mx) (opsOf (cAt [1,0] (aH (CL mx) 7)))) (fl:=flL [0,1,2,5,6,7,8,9,10,12,13,14,15,26,29,30,31,32,56] (opsOf (cAt [1,0] (aH (CL mx) 7))).toList) (by kernel_rfl) _ _ _).trans (by kernel_rfl)
theorem agR:kc (CL mx) run lp (ac9 mx) ⟨bn v0 v1 v2 v5 v6 v7 v8 v9 v10 v12 v13 v14 v15 v26 v29 v30 v31 v32 v56,h⟩ κn κx=kc (CL mx) run lp (akB mx) ⟨bn v0 v1 v2 v5 v6 v7 v8 v9 v10 v12 v13 v14 v15 v26 v29 v30 v31 v32 v56,h⟩ (fun s=>kc (CL mx) run lp (akO mx) s κn κx) κx:=by kernel_rfl
theorem ahz:kc (CL mx) run lp (akB mx) ⟨bn v0 v1 v2 v5 v6 v7 v8 v9 v10 v12 v13 v14 v15 v26 v29 v30 v31 v32 v56,h⟩ κn κx=ao 0 v9 h (fun a0 h=>ar a0 h (fun a1 h=>cmp ine a1 (.int 9223372036854775807 0) h (fun a2 h=>bG a2 (kc (CL mx) run lp (akl mx) ⟨bn v0 v1 v2 v5 v6 v7 v8 v9 v10 v12 v13 v14 v15 a2 v29 v30 v31 v32 v56,h⟩ (fun s=>kc (CL mx) run lp (aj5 mx) s κn κx) κx) (κn ⟨bn v0 v1 v2 v5 v6 v7 v8 v9 v10 v12 v13 v14 v15 a2 v29 v30 v31 v32 v56,h⟩)))):=by kernel_rfl
theorem afB:kc (CL mx) run lp (akO mx) ⟨bn v0 v1 v2 v5 v6 v7 v8 v9 v10 v12 v13 v14 v15 v26 v29 v30 v31 v32 v56,h⟩ κn κx=kc (CL mx) run lp (akf mx) ⟨bn v0 v1 v2 v5 v6 v7 v8 v9 (.nils) v12 v13 v14 v15 v26 v29 v30 v31 v32 v56,h⟩ (fun s=>kc (CL mx) run lp (ama mx) s κn κx) κx:=by kernel_rfl
theorem afW:kc (CL mx) run lp (akl mx) ⟨bn v0 v1 v2 v5 v6 v7 v8 v9 v10 v12 v13 v14 v15 v26 v29 v30 v31 v32 v56,h⟩ κn κx=aQ 2 v9 h (fun a0 h=>aK 2 v7 a0 h (fun a1 h1=>bq (Nat.ble (aj h) (aj h1)) ((fun h=>κn ⟨bn v0 v1 v2 v5 (.nils) v7 v8 v9 v10 v12 v13 v14 v15 v26 v29 v30 v31 v32 v56,h⟩) h1) none)):=(cE (C:=CL mx) (ops:=opsOf (cAt [1,1,0,1,0,0] (aH (CL mx) 7))) (ps:=[0,1,2,5,6,7,8,9,10,12,13,14,15,26,29,30,31,32,56]) (by kernel_rfl) (by kernel_rfl) _ _ _).trans (by kernel_rfl)
theorem agn:kc (CL mx) run lp (aj5 mx) ⟨bn v0 v1 v2 v5 v6 v7 v8 v9 v10 v12 v13 v14 v15 v26 v29 v30 v31 v32 v56,h⟩ κn κx=κx .ret ⟨bn v0 v1 v2 v5 v6 v7 v8 v9 v10 v12 v13 v14 v15 v26 v29 v30 v31 v32 v56,h⟩:=by kernel_rfl
theorem agr:kc (CL mx) run lp (akf mx) ⟨bn v0 v1 v2 v5 v6 v7 v8 v9 v10 v12 v13 v14 v15 v26 v29 v30 v31 v32 v56,h⟩ κn κx=ao 3 v8 h (fun a0 h=>ar a0 h (fun a1 h=>bH a1 h (fun a2 h=>kcR κn (kcO 0 κn κx) (lp (u7 mx) ⟨bn v0 v1 v2 v5 v6 v7 v8 v9 v10 v12 v13 v14 v15 v26 a1 a2 (.int 9223372036854775807 0) v32 v56,h⟩)))):=by kernel_rfl
theorem agx:kc (CL mx) run lp (ama mx) ⟨bn v0 v1 v2 v5 v6 v7 v8 v9 v10 v12 v13 v14 v15 v26 v29 v30 v31 v32 v56,h⟩ κn κx=gU (placeOf (CL mx) [(0,25),(1,3)]) [.int 9223372036854775807 0,.int 9223372036854775807 0] [] h (fun a0 h=>aK 2 v7 a0 h (fun a1 h=>κx .ret ⟨bn v0 v1 v2 v5 v10 v7 v8 v9 v10 v12 v13 v14 v15 v26 v29 v30 v31 v32 v56,h⟩)):=by kernel_rfl
theorem xc:kc (CL mx) run lp (u7 mx) ⟨bn v0 v1 v2 v5 v6 v7 v8 v9 v10 v12 v13 v14 v15 v26 v29 v30 v31 v32 v56,h⟩ κn κx=cmp ilt v31 v30 h (fun a0 h=>bG a0 (kc (CL mx) run lp (adx mx) ⟨bn v0 v1 v2 v5 v6 v7 v8 v9 v10 v12 v13 v14 v15 v26 v29 v30 v31 a0 v56,h⟩ (fun s=>kc (CL mx) run lp (tw mx) s κn κx) κx) (κx (.exit 0) ⟨bn v0 v1 v2 v5 v6 v7 v8 v9 v10 v12 v13 v14 v15 v26 v29 v30 v31 a0 v56,h⟩)):=by kernel_rfl
theorem ac4:kc (CL mx) run lp (adx mx) ⟨bn v0 v1 v2 v5 v6 v7 v8 v9 v10 v12 v13 v14 v15 v26 v29 v30 v31 v32 v56,h⟩ κn κx=bT 4 v29 v31 h (fun a0 h=>aQ 4 a0 h (fun a1 h=>dY h (.cells [.int 18446744073709551615 0,.bool false,.nils,.nils] 70) (fun a2 h=>aK 4 a2 a1 h (fun a3 h=>kc (CL mx) run lp (afc mx) ⟨bn v0 v1 v2 v5 v6 v7 v8 v9 v10 a2 v13 v14 v15 v26 v29 v30 v31 v32 v56,h⟩ (fun s=>kc (CL mx) run lp (aeh mx) s κn (kcO 1 κn κx)) (kcO 1 κn κx))))):=by kernel_rfl
theorem abt:kc (CL mx) run lp (tw mx) ⟨bn v0 v1 v2 v5 v6 v7 v8 v9 v10 v12 v13 v14 v15 v26 v29 v30 v31 v32 v56,h⟩ κn κx=arith fu v31 (.int 9223372036854775807 1) h (fun a0 h=>κn ⟨bn v0 v1 v2 v5 v6 v7 v8 v9 v10 v12 v13 v14 v15 v26 v29 v30 a0 v32 v56,h⟩):=by kernel_rfl
theorem acV:kc (CL mx) run lp (afc mx) ⟨bn v0 v1 v2 v5 v6 v7 v8 v9 v10 v12 v13 v14 v15 v26 v29 v30 v31 v32 v56,h⟩ κn κx=ao 3 v12 h (fun a0 h=>ar a0 h (fun a1 h=>bT 4 a1 (.int 9223372036854775807 0) h (fun a2 h=>ao 0 a2 h (fun a3 h=>ar a3 h (fun a4 h=>ao 3 v12 h (fun a5 h=>ar a5 h (fun a6 h=>bT 4 a6 (.int 9223372036854775807 1) h (fun a7 h=>ao 3 a7 h (fun a8 h=>ar a8 h (fun a9 h=>bT 4 a9 (.int 9223372036854775807 0) h (fun a10 h=>aQ 4 a10 h (fun a11 h=>dY h (.cells [.int 18446744073709551615 0,.bool false,.nils,.nils] 70) (fun a12 h=>aK 4 a12 a11 h (fun a13 h1=>bq (Nat.ble (aj h) (aj h1)) ((fun h=>κn ⟨bn v0 v1 v2 v5 v6 v7 v8 v9 v10 v12 a4 a12 v15 v26 v29 v30 v31 v32 v56,h⟩) h1) none)))))))))))))):=(cE (C:=CL mx) (ops:=opsOf (cAt [1,1,1,1,0,1,0,0,1,1,0,0,1,0] (aH (CL mx) 7))) (ps:=[0,1,2,5,6,7,8,9,10,12,13,14,15,26,29,30,31,32,56]) (by kernel_rfl) (by kernel_rfl) _ _ _).trans (by kernel_rfl)
theorem adg:kc (CL mx) run lp (aeh mx) ⟨bn v0 v1 v2 v5 v6 v7 v8 v9 v10 v12 v13 v14 v15 v26 v29 v30 v31 v32 v56,h⟩ κn κx=pK 18446744073709551615 64 v13 (.int 18446744073709551615 3) h (fun a0 h=>cvI 9223372036854775807 a0 h (fun a1 h=>mh 18446744073709551615 18446744073709551615 Nat.land v13 (.int 18446744073709551615 7) h (fun a2 h=>cvI 9223372036854775807 a2 h (fun a3 h=>gU (placeOf (CL mx) [(0,3),(1,3),(2,40),(3,22)]) [.int 9223372036854775807 0,.int 9223372036854775807 0,.int 18446744073709551615 0,.nils] [(0,a1),(1,a3)] h (fun a4 h=>dY h (.cells [.int 9223372036854775807 0,.int 9223372036854775807 0,.int 18446744073709551615 0,.nils] 43) (fun a5 h=>aK 4 a5 a4 h (fun a6 h=>kc (CL mx) run lp (aeP mx) ⟨bn v0 v1 v2 v5 v6 v7 v8 v9 v10 v12 v13 v14 a5 v26 v29 v30 v31 v32 v56,h⟩ (fun s=>kc (CL mx) run lp (yX mx) s κn κx) κx))))))):=by kernel_rfl
theorem acU:kc (CL mx) run lp (aeP mx) ⟨bn v0 v1 v2 v5 v6 v7 v8 v9 v10 v12 v13 v14 v15 v26 v29 v30 v31 v32 v56,h⟩ κn κx=ao 1 v15 h (fun a0 h=>ar a0 h (fun a1 h=>cmp cj a1 (.int 9223372036854775807 2) h (fun a2 h=>bG a2 (ao 3 v14 h (fun a3 h=>ar a3 h (fun a4 h=>bT 4 a4 (.int 9223372036854775807 1) h (fun a5 h=>ao 2 a5 h (fun a6 h=>ar a6 h (fun a7 h=>ao 3 v15 h (fun a8 h=>cB a8 a7 h (fun a9 h=>κn ⟨bn v0 v1 v2 v5 v6 v7 v8 v9 v10 v12 v13 v14 v15 v26 v29 v30 v31 v32 a2,h⟩)))))))) (ao 0 v14 h (fun a3 h=>ar a3 h (fun a4 h=>ao 2 v15 h (fun a5 h=>cB a5 a4 h (fun a6 h=>κn ⟨bn v0 v1 v2 v5 v6 v7 v8 v9 v10 v12 v13 v14 v15 v26 v29 v30 v31 v32 a2,h⟩)))))))):=by kernel_rfl
theorem abn:kc (CL mx) run lp (yX mx) ⟨bn v0 v1 v2 v5 v6 v7 v8 v9 v10 v12 v13 v14 v15 v26 v29 v30 v31 v32 v56,h⟩ κn κx=aQ 4 v15 h (fun a0 h=>fD 4 1 [.int 9223372036854775807 0,.int 9223372036854775807 0,.int 18446744073709551615 0,.nils] [(0,a0)] h (fun a1 h=>eH 43 4 48 v10 a1 h (fun a2 h=>κn ⟨bn v0 v1 v2 v5 v6 v7 v8 v9 a2 v12 v13 v14 v15 v26 v29 v30 v31 v32 v56,h⟩))):=by kernel_rfl
theorem acZ:aW (bn v0 v1 v2 v5 v6 v7 v8 v9 v10 v12 v13 v14 v15 v26 v29 v30 v31 v32 v56) 1=v1:=(rfl)
theorem adb:aW (bn v0 v1 v2 v5 v6 v7 v8 v9 v10 v12 v13 v14 v15 v26 v29 v30 v31 v32 v56) 5=v5:=(rfl)
theorem ah4:kcE (CL mx) [.tmp 6,.cell 7 27] ⟨bn v0 v1 v2 v5 v6 v7 v8 v9 v10 v12 v13 v14 v15 v26 v29 v30 v31 v32 v56,h⟩=aQ 2 v7 h (fun r0 _=>some (.vh (.tup [v6,r0]) h)):=(bJ _ _ _).trans (by kernel_rfl)
theorem anW:dp (CL mx) 7=some ⟨acy mx,[0,1,2,5,6,7,8,9,10,12,13,14,15,26,29,30,31,32,56],73,[.tmp 6,.cell 7 27]⟩:=by kernel_rfl
end
theorem ajZ (mx:Int) (run:Run) (lp:Lp) (x0 x1 x2:AV) (h:AH):cW (CL mx) run lp 7 [x0,x1,x2] h=vhO (kc (CL mx) run lp (acy mx) ⟨bn x0 x1 x2 .bot .bot .bot .bot .bot .bot .bot .bot .bot .bot .bot .bot .bot .bot .bot .bot,h⟩ (kcE (CL mx) [.tmp 6,.cell 7 27]) (kcQ (CL mx) [.tmp 6,.cell 7 27])):=(bK (by kernel_rfl) (anW mx) (by kernel_rfl)).trans (by kernel_rfl)
theorem zC (mx:Int) (p:List Nat):eF (CL mx) (kAt p (kOf (CL mx) 7)):=jF p (jT (CL mx) 7)
def xY (v0 v2:AV):Tm:=(.nd 2 (.lf 0 v0) (.lf 2 v2))
def ack (mx:Int):K:=kAt [] (kOf (CL mx) 23)
section
set_option maxRecDepth 100000
variable (mx:Int) (run:Run) (lp:Lp) (κn:Kt) (κx:Ex→Kt) (h:AH) (v0 v2:AV)
theorem ahi:kc (CL mx) run lp (ack mx) ⟨xY v0 v2,h⟩ κn κx=aC v0 h (fun a0 h=>ao 0 a0 h (fun a1 h=>ar a1 h (fun a2 h=>aL (fun a3 h=>κx .ret ⟨xY v0 a3,h⟩) (aD (CL mx) run 44 [a2,(.str [112,114,111,116,111])] h)))):=by kernel_rfl
theorem aia:kcE (CL mx) [.tmp 2] ⟨xY v0 v2,h⟩=some (.vh v2 h):=(bJ _ _ _).trans (by kernel_rfl)
theorem anO:dp (CL mx) 23=some ⟨ack mx,[0,2],8,[.tmp 2]⟩:=by kernel_rfl
end
theorem aix (mx:Int) (run:Run) (lp:Lp) (x0:AV) (h:AH):cW (CL mx) run lp 23 [x0] h=vhO (kc (CL mx) run lp (ack mx) ⟨xY x0 .bot,h⟩ (kcE (CL mx) [.tmp 2]) (kcQ (CL mx) [.tmp 2])):=(bK (by kernel_rfl) (anO mx) (by kernel_rfl)).trans (by kernel_rfl)
def arw:=And.intro @ahi (@aia)
def yN (v0 v1 v4:AV):Tm:=(.nd 1 (.lf 0 v0) (.nd 4 (.lf 1 v1) (.lf 4 v4)))
def acn (mx:Int):K:=kAt [] (kOf (CL mx) 44)
section
set_option maxRecDepth 100000
variable (mx:Int) (run:Run) (lp:Lp) (κn:Kt) (κx:Ex→Kt) (h:AH) (v0 v1 v4:AV)
theorem agB:kc (CL mx) run lp (acn mx) ⟨yN v0 v1 v4,h⟩ κn κx=aC v0 h (fun a0 h=>ao 0 a0 h (fun a1 h=>ar a1 h (fun a2 h=>ni ⟨.string,1,16,[.str []],false,true⟩ ⟨(.pointer 138),1,8,[.nil],false,false⟩ false a2 v1 h (fun a3 h=>κx .ret ⟨yN v0 v1 a3,h⟩)))):=by kernel_rfl
theorem aiA:kcE (CL mx) [.tmp 4] ⟨yN v0 v1 v4,h⟩=some (.vh v4 h):=(bJ _ _ _).trans (by kernel_rfl)
theorem aoc:dp (CL mx) 44=some ⟨acn mx,[0,1,4],11,[.tmp 4]⟩:=by kernel_rfl
end
theorem alX (mx:Int) (run:Run) (lp:Lp) (x0 x1:AV) (h:AH):cW (CL mx) run lp 44 [x0,x1] h=vhO (kc (CL mx) run lp (acn mx) ⟨yN x0 x1 .bot,h⟩ (kcE (CL mx) [.tmp 4]) (kcQ (CL mx) [.tmp 4])):=(bK (by kernel_rfl) (aoc mx) (by kernel_rfl)).trans (by kernel_rfl)
def aqP:=And.intro @agB (@aiA)
end
def Old (h h':AH):Prop:=h.length≤h'.length∧ ∀i,i<h.length→ae h' i=ae h i
theorem Old.rfl {h:AH}:Old h h:=⟨Nat.le_refl _,fun _ _=>(by rfl)⟩
theorem Old.app {h h':AH} (o:Old h h') (x:AH):Old h (h'++x):=⟨by rw [List.length_append];have:=o.1;omega,fun i hi=>by rw [aq (by have:=o.1;omega)];exact o.2 i hi⟩
theorem Old.set {h h':AH} (o:Old h h') {j:Nat} (hj:h.length≤j) (x:Option Blk):Old h (h'.set j x):=⟨by rw [List.length_set];exact o.1,fun i hi=>by rw [ai (by omega)];exact o.2 i hi⟩
theorem Old.trans {h h' h2:AH} (a:Old h h') (b:Old h' h2):Old h h2:=⟨Nat.le_trans a.1 b.1,fun i hi=>(b.2 i (Nat.lt_of_lt_of_le hi a.1)).trans (a.2 i hi)⟩
def ajP (h:AH) (S:Nat→Prop) (kv:AV) (i:Nat) (t:PT):Prop:=∃q P,fK h S q t∧(∀(k:Nat) (h':AH) (κ:Ka),bT 4 kv (.int k (i:Int)) h' κ=κ P h')∧(∀h',Old h h'→ ∀κ:Ka,aQ 4 P h' κ=κ (.agg q) h')∧
 ∀(j:Nat) (c:AV),q[j]? =some c→ ∃M,(∀(h':AH) (κ:Ka),ao j P h' κ=κ M h')∧ ∀h',Old h h'→ ∀κ:Ka,ar M h' κ=κ c h'
theorem fK.kids {h:AH} {S:Nat→Prop} {q:List AV} {n:Nat} {b:Bool} {d:List Nat} {ks:List PT} (T:fK h S q (.nd n b d ks)): ∃dv kv,q=[U64 n,.bool b,dv,kv]∧iD h S dv d∧(∀(h':AH) (κ:Ka),bH kv h' κ=κ (N64 ks.length) h')∧ ∀i t,ks[i]? =some t→ajP h S kv i t:=by
 unfold fK at T
 obtain ⟨dv,kv,e1,e2,e3⟩:=T
 refine ⟨dv,kv,e1,e2,?_⟩
 rcases e3 with ⟨rfl,rfl⟩|⟨kb,e,rows,y,rfl,hS,hb,hr⟩
 ·exact ⟨fun _ _=>rfl,fun i t h=>by simp at h⟩
 ·refine ⟨fun _ _=>rfl,fun i t ht=>?_⟩
  obtain ⟨hl,h4⟩:=cw.rows hr
  obtain ⟨q',hq',T'⟩:=cw.get hr ht
  have ob:OwB h 4 (.slo kb 0 ks.length ks.length 4 e) rows kb ks.length e [] y:=⟨by rw [hl],by rw [List.append_nil];exact hb,by rw [hl];exact Nat.le_refl _,by rw [jM h4,hl];rfl⟩
  have lt:=aO hb
  have el:=ob.el h4 hq'
  have old: ∀h',Old h h'→OwB h' 4 (.slo kb 0 ks.length ks.length 4 e) rows kb ks.length e [] y:=fun h' o=>⟨ob.val,by rw [o.2 kb lt];exact ob.blk,ob.fit,ob.len⟩
  refine ⟨q',.pto kb (i*4),T'.mono t fun b hb hs=>⟨hs.1,rfl⟩,el.idx,fun h' o=>((old h' o).el h4 hq').ldG,fun j c hc=>⟨.pto kb (i*4+j),fun h' κ=>by rw [eE],fun h' o=>((old h' o).el h4 hq').ld1 j c hc⟩⟩
def am3 (h:AH) (S:Nat→Prop) (r:List AV) (x:dm):Prop:=∃dv,r=[N64 x.num,N64 x.ty,U64 x.val,dv]∧iD h S dv x.dat
structure ROk (x:dm):Prop where
 ty:x.ty<8
 key:x.num*8+x.ty≤4294967295
 val:x.val<18446744073709551616
 nod:x.ty≠2→x.dat=[]
 nov:x.ty=2→x.val=0
section
variable {mx:Int} {h h' h1:AH} {S:Nat→Prop} {Q:Option Rs→Prop} {κn:Kt} {κx:Ex→Kt}
theorem amP (z a b c d:AV) (h:AH) (κ:Ka):fD 4 1 [z,.int 9223372036854775807 0,.int 18446744073709551615 0,.nils] [(0,.agg [a,b,c,d])] h κ=κ (.slo h.length 0 1 1 4 true) (h++[some (.cells [a,b,c,d] 0)]):=by
 have e:fD 4 1 [z,.int 9223372036854775807 0,.int 18446744073709551615 0,.nils] [(0,.agg [a,b,c,d])] h κ=κ (.slo (aj h) 0 1 1 4 true) (aJ h [some (.cells [a,b,c,d] 0)]):=by kernel_rfl
 rw [e,ah,aP]
theorem ai3 (q:List AV) (hq:q.length=4) (h:AH):cQ (h++[some (.cells q 0)]) 4 1 (.slo h.length 0 1 1 4 true)=some q:=by
 match q,hq with
 |[a,b,c,d],_=>
  unfold cQ
  simp only [aI]
  rfl
theorem qW {dv:AV} {d:List Nat} (D:iD h S dv d):dv.plain=true:=D.at.plain
theorem ala {n1:Nat} (hn1:n1=h1.length) {kv:AV} {L:List dm} (hk: ∀i x,L[i]? =some x→ajP h1 S kv i (qh x)) (hL: ∀x∈L,ROk x) (hl:L.length≤90000) (v0 v1 v2 v5 v6 v7 v8 v9 v26:AV):
 ∀(R A:List dm) (f:Nat) (hc:AH) (v10 v12 v13 v14 v15 v32 v56:AV) (rows:List (List AV)),L=A++R→R.length+2≤f→Old h1 hc→OwR hc (fun b=>n1≤b) 4 v10 rows→rows.length=A.length→(∀(i:Nat) r x,rows[i]? =some r→A[i]? =some x→am3 h1 S r x)→
  (∀h' v10 v12 v13 v14 v15 v32 v56 (rows:List (List AV)),Old h1 h'→OwR h' (fun b=>n1≤b) 4 v10 rows→rows.length=L.length→(∀(i:Nat) r x,rows[i]? =some r→L[i]? =some x→am3 h1 S r x)→Q (κx (.exit 0) ⟨bn v0 v1 v2 v5 v6 v7 v8 v9 v10 v12 v13 v14 v15 v26 kv (N64 L.length) (N64 L.length) v32 v56,h'⟩))→
  Q (kcR κn κx ((rl (CL mx) f).lp (u7 mx) ⟨bn v0 v1 v2 v5 v6 v7 v8 v9 v10 v12 v13 v14 v15 v26 kv (N64 L.length) (N64 A.length) v32 v56,hc⟩)):=by
 intro R
 induction R with
 |nil=>
  intro A f hc v10 v12 v13 v14 v15 v32 v56 rows hA hf o ow hr hrow k
  obtain ⟨f,rfl⟩:=fuel hf
  obtain rfl:L=A:=by simpa using hA
  refine iX (zC mx _) ?_
  simp only [sy,List.length_append,Nat.reduceAdd,Nat.reduceMul,Nat.reduceSub,Nat.reduceLeDiff,Nat.reduceEqDiff,Nat.reduceLT,reduceIte,xc,n64,Int.lt_irrefl]
  exact k hc _ _ _ _ _ _ _ rows o ow hr hrow
 |cons x R ih=>
  intro A f hc v10 v12 v13 v14 v15 v32 v56 rows hA hf o ow hr hrow k
  obtain ⟨f,rfl⟩:=fuel hf
  have hlen:L.length=A.length+(R.length+1):=by rw [hA];simp
  have hx:L[A.length]? =some x:=by rw [hA];simp
  have ok:=hL x (List.mem_of_getElem? hx)
  obtain ⟨q,P,T,ix,lG,ld⟩:=hk _ _ hx
  have q4:=T.four
  have g1:decide ((A.length:Int)<(L.length:Int))=true:=by rw [decide_eq_true_iff];omega
  have w1:aZ 9223372036854775807 ((A.length:Int)+1)=(((A++[x]).length:Nat):Int):=by rw [bd (by omega) (by omega)];simp
  unfold qh at T
  obtain ⟨dv,kv0,rfl,D0,len0,kid0⟩:=T.kids
  obtain ⟨qk,Pk,Tk,ixk,lGk,ldk⟩:=kid0 0 _ rfl
  obtain ⟨q1,P1,T1,ix1,lG1,ld1⟩:=kid0 1 _ rfl
  obtain ⟨dk,kk,rfl,_,_,_⟩:=Tk.kids
  obtain ⟨d1,k1,rfl,_,_,kid1⟩:=T1.kids
  obtain ⟨qv,Pv,Tv,ixv,lGv,ldv⟩:=kid1 0 _ rfl
  obtain ⟨Mk,mvk,lk⟩:=ldk 0 _ rfl
  obtain ⟨M1,mv1,l1⟩:=ld1 3 _ rfl
  have qv4:=Tv.four
  have lG0:=lG hc o
  have z0: ∀κ:Ka,aK 4 (.pto hc.length 0) (.agg [U64 0,.bool false,dv,kv0]) (hc++[some (.cells [.int 18446744073709551615 0,.bool false,.nils,.nils] (69+1))]) κ=κ (.tup []) (hc++[some (.cells [U64 0,.bool false,dv,kv0] (69+1))]):=fun κ=>cY rfl rfl q4.2
  have t0:=aI hc (some (Blk.cells [U64 0,.bool false,dv,kv0] (69+1)))
  have o0:=o.app [some (Blk.cells [U64 0,.bool false,dv,kv0] (69+1))]
  simp only [Nat.reduceAdd] at z0 t0 o0
  generalize hH0:hc++[some (Blk.cells [U64 0,.bool false,dv,kv0] (69+1))]=H0 at*
  have l0:H0.length=hc.length+1:=by rw [←hH0];simp
  have f0: ∀i,i<hc.length→ae H0 i=ae hc i:=fun i hi=>by rw [←hH0,aq hi]
  have lk0:=lk H0 o0
  have l10:=l1 H0 o0
  have lGv0:=lGv H0 o0
  refine iX (zC mx _) ?_
  simp only [sy,List.length_append,Nat.reduceAdd,Nat.reduceMul,Nat.reduceSub,Nat.reduceLeDiff,Nat.reduceEqDiff,Nat.reduceLT,reduceIte,xc,ac4,n64,g1,ix,lG0,z0]
  have ixk0: ∀(k:Nat) (h':AH) (κ:Ka),bT 4 kv0 (.int k 0) h' κ=κ Pk h':=ixk
  have ix10: ∀(k:Nat) (h':AH) (κ:Ka),bT 4 kv0 (.int k 1) h' κ=κ P1 h':=ix1
  have ixv0: ∀(k:Nat) (h':AH) (κ:Ka),bT 4 k1 (.int k 0) h' κ=κ Pv h':=ixv
  have zv: ∀κ:Ka,aK 4 (.pto H0.length 0) (.agg qv) (H0++[some (.cells [.int 18446744073709551615 0,.bool false,.nils,.nils] (69+1))]) κ=κ (.tup []) (H0++[some (.cells qv (69+1))]):=fun κ=>cY rfl qv4.1 qv4.2
  have tv:=aI H0 (some (Blk.cells qv (69+1)))
  have ov:=o0.app [some (Blk.cells qv (69+1))]
  have bv: ∀B:Option Blk,Nat.ble (aj (H0++[B])) (aj (H0++[some (Blk.cells qv (69+1))]))=true:=fun B=>by rw [bL,ah,ah,decide_eq_true_iff];simp
  simp only [Nat.reduceAdd] at zv tv ov bv
  simp only [sy,List.length_append,Nat.reduceAdd,Nat.reduceMul,Nat.reduceSub,Nat.reduceLeDiff,Nat.reduceEqDiff,Nat.reduceLT,reduceIte,acV,t0,ixk0,mvk,lk0,ix10,mv1,l10,ixv0,lGv0,zv,bv]
  generalize hH1:H0++[some (Blk.cells qv (69+1))]=H1 at*
  have l1:H1.length=hc.length+2:=by rw [←hH1];simp [l0]
  have f1: ∀i,i<hc.length→ae H1 i=ae hc i:=fun i hi=>by rw [←hH1,aq (by omega)];exact f0 i hi
  have sh: ∀(h:AH) (κ:Ka),pK 18446744073709551615 64 (U64 (x.num*8+x.ty)) (.int 18446744073709551615 3) h κ=κ (U64 x.num) h:=fun h κ=>by
   have:=ok.ty
   unfold U64
   rw [adI (x.num*8+x.ty) (by decide) (by decide),show (2:Nat)^(3:Int).toNat=8 from rfl,show (x.num*8+x.ty)/8=x.num by omega]
  have an: ∀(h:AH) (κ:Ka),mh 18446744073709551615 18446744073709551615 Nat.land (U64 (x.num*8+x.ty)) (.int 18446744073709551615 7) h κ=κ (U64 x.ty) h:=fun h κ=>by
   have:=ok.ty
   have:=ok.key
   unfold U64
   rw [qD,jC (by omega),show toU 18446744073709551615 7=7 from aee (by decide) (by decide)]
   rw [show Nat.land (x.num*8+x.ty) 7=x.ty from (by
    show (x.num*8+x.ty)&&&7=x.ty
    rw [show (7:Nat)=2^3-1 from rfl,Nat.and_two_pow_sub_one_eq_mod]
    omega),gz (by omega) (by omega)]
  have cv: ∀(n:Nat) (h:AH) (κ:Ka),n≤4294967295→cvI 9223372036854775807 (U64 n) h κ=κ (N64 n) h:=fun n h κ hn=>by
   unfold U64 N64
   rw [ahQ,bd (by omega) (by omega)]
  have ky:=ok.key
  refine wEq (adg ..) ?_
  refine wEq (sh _ _) ?_
  refine wEq (cv _ _ _ (by omega)) ?_
  refine wEq (an _ _) ?_
  refine wEq (cv _ _ _ (by omega)) ?_
  refine wEq (eB (cs:=[N64 x.num,N64 x.ty,.int 18446744073709551615 0,.nils]) (by kernel_rfl)) ?_
  have zf: ∀κ:Ka,aK 4 (.pto H1.length 0) (.agg [N64 x.num,N64 x.ty,.int 18446744073709551615 0,.nils]) (H1++[some (.cells [.int 9223372036854775807 0,.int 9223372036854775807 0,.int 18446744073709551615 0,.nils] (42+1))]) κ=κ (.tup []) (H1++[some (.cells [N64 x.num,N64 x.ty,.int 18446744073709551615 0,.nils] (42+1))]):=fun κ=>cY rfl rfl rfl
  rw [dC]
  refine wEq (zf _) ?_
  obtain ⟨H2,hH2⟩: ∃H2,H2=H1++[some (.cells [N64 x.num,N64 x.ty,.int 18446744073709551615 0,.nils] (42+1))]:=⟨_,rfl⟩
  rw [←hH2]
  have l2:H2.length=hc.length+3:=by rw [hH2];simp [l1]
  have f2: ∀i,i<hc.length→ae H2 i=ae hc i:=fun i hi=>by rw [hH2,aq (by omega)];exact f1 i hi
  have o2:Old h1 H2:=by rw [hH2];exact ov.app _
  have e2:ae H2 H1.length=some (.cells [N64 x.num,N64 x.ty,.int 18446744073709551615 0,.nils] (42+1)):=by rw [hH2,aI]
  have c2:ae H2 H0.length=some (.cells qv (69+1)):=by rw [hH2,aq (by omega)];exact tv
  -- the end of a round
  have fin: ∀(H3:AH) (dvx v56':AV),H3.length=hc.length+3→(∀i,i<hc.length→ae H3 i=ae hc i)→Old h1 H3→ae H3 H1.length=some (.cells [N64 x.num,N64 x.ty,U64 x.val,dvx] (42+1))→iD h1 S dvx x.dat→
   Q (kc (CL mx) (rl (CL mx) (f+(R.length+1+1))).run (rl (CL mx) (f+(R.length+1+1))).lp (yX mx) ⟨bn v0 v1 v2 v5 v6 v7 v8 v9 v10 (.pto hc.length 0) (U64 (x.num*8+x.ty)) (.pto H0.length 0) (.pto H1.length 0) v26 kv (.int 9223372036854775807 (L.length:Int)) (.int 9223372036854775807 (A.length:Int)) (.bool true) v56',H3⟩
     (fun s=>kc (CL mx) (rl (CL mx) (f+(R.length+1+1))).run (rl (CL mx) (f+(R.length+1+1))).lp (tw mx) s (fun s=>kcR κn κx ((rl (CL mx) (f+(R.length+1+1))).lp (u7 mx) s)) κx)
     (kcO 1 (fun s=>kc (CL mx) (rl (CL mx) (f+(R.length+1+1))).run (rl (CL mx) (f+(R.length+1+1))).lp (tw mx) s (fun s=>kcR κn κx ((rl (CL mx) (f+(R.length+1+1))).lp (u7 mx) s)) κx) κx)):=by
   intro H3 dvx v56' l3 f3 o3 e3 D3
   have hq:aR [N64 x.num,N64 x.ty,U64 x.val,dvx]=true:=by
    show and true (and true (and true (and dvx.plain true)))=true
    rw [qW D3];rfl
   have lf: ∀κ:Ka,aQ 4 (.pto H1.length 0) H3 κ=κ (.agg [N64 x.num,N64 x.ty,U64 x.val,dvx]) H3:=fun κ=>bS (n:=4) e3 rfl κ
   have ow3:OwR (H3++[some (.cells [N64 x.num,N64 x.ty,U64 x.val,dvx] 0)]) (fun b=>n1≤b) 4 v10 rows:=ow.mono fun b hb hs=>⟨hs,by rw [aq (by omega)];exact f3 b hb⟩
   obtain ⟨v',h',a1,a2,a3,a4⟩:=ow3.app (42+1) (by_:=48) (by decide) (by decide) (x:=.slo H3.length 0 1 1 4 true) (q:=[N64 x.num,N64 x.ty,U64 x.val,dvx]) rfl (ai3 _ rfl H3) rfl hq (by omega)
   rw [List.length_append,l3] at a3
   have o4:Old h1 h':=⟨by have:=o3.1;simp at a3;omega,fun i hi=>by
    have:=o3.1
    rw [a4 i (by omega) (by rw [List.length_append];omega),aq (by omega)]
    exact o3.2 i hi⟩
   have sS: ∀b,(n1≤b∨b=(H3++[some (Blk.cells [N64 x.num,N64 x.ty,U64 x.val,dvx] 0)]).length)→n1≤b:=fun b hs=>by
    rcases hs with hs|rfl
    ·exact hs
    ·rw [List.length_append];have:=o.1;omega
   refine wEq (abn ..) ?_
   refine wEq (lf _) ?_
   refine wEq (amP _ _ _ _ _ _ _) ?_
   refine wEq (a1 _) ?_
   refine wEq (abt ..) ?_
   simp only [kK,aep,w1]
   refine ih (A++[x]) (f+(R.length+1+1)) h' v' _ _ _ _ _ _ (rows++[[N64 x.num,N64 x.ty,U64 x.val,dvx]]) (by rw [hA];simp) (by omega) o4 (a2.mono fun b _ hs=>⟨sS b hs,rfl⟩) (by simp [hr]) ?_ k
   intro i r y hi hy
   by_cases hl:i<A.length
   ·rw [List.getElem?_append_left (by omega)] at hi
    rw [List.getElem?_append_left hl] at hy
    exact hrow i r y hi hy
   ·have hi2:i=A.length:=by
     have:=(List.getElem?_eq_some_iff.1 hy).1
     simp at this;omega
    subst hi2
    rw [←hr,List.getElem?_append_right (Nat.le_refl _)] at hi
    rw [List.getElem?_append_right (Nat.le_refl _)] at hy
    simp at hi hy
    rw [←hi,←hy]
    exact ⟨dvx,rfl,D3⟩
  refine wEq (acU ..) ?_
  have e2':=e2
  simp only [n64] at e2'
  have b1:H1.length<H2.length:=by omega
  by_cases h2:x.ty=2
  ·have g2:decide ((x.ty:Int)=2)=true:=by rw [decide_eq_true_iff];omega
   rw [if_pos h2] at Tv
   obtain ⟨dz,kz,hqv,_,_,kidv⟩:=Tv.kids
   obtain ⟨qd,Pd,Td,ixd,_,ldd⟩:=kidv 1 _ rfl
   obtain ⟨dd,kd,rfl,Dd,_,_⟩:=Td.kids
   obtain ⟨Md,mvd,ld⟩:=ldd 2 _ rfl
   have ixd1: ∀(k:Nat) (h':AH) (κ:Ka),bT 4 kz (.int k 1) h' κ=κ Pd h':=ixd
   have ldd2:=ld H2 o2
   rw [hqv] at c2
   have pd:=qW Dd
   simp only [sy,List.length_append,Nat.reduceAdd,Nat.reduceMul,Nat.reduceSub,Nat.reduceLeDiff,Nat.reduceEqDiff,Nat.reduceLT,reduceIte,e2',g2,c2,ixd1,mvd,ldd2,pd,List.set_cons_succ,List.set_cons_zero]
   refine fin _ dd _ (by rw [List.length_set];exact l2) (fun i hi=>by rw [ai (by omega)];exact f2 i hi) (o2.set (by have:=o.1;omega) _) ?_ Dd
   rw [az b1,ok.nov h2];rfl
  ·have g2:decide ((x.ty:Int)=2)=false:=by rw [decide_eq_false_iff_not];omega
   rw [if_neg h2] at Tv
   obtain ⟨dz,kz,hqv,_,_,_⟩:=Tv.kids
   rw [hqv] at c2
   simp only [sy,List.length_append,Nat.reduceAdd,Nat.reduceMul,Nat.reduceSub,Nat.reduceLeDiff,Nat.reduceEqDiff,Nat.reduceLT,reduceIte,e2',g2,c2,U64,List.set_cons_succ,List.set_cons_zero]
   refine fin _ .nils _ (by rw [List.length_set];exact l2) (fun i hi=>by rw [ai (by omega)];exact f2 i hi) (o2.set (by have:=o.1;omega) _) ?_ (.inl ⟨ok.nod h2,rfl⟩)
   rw [az b1];rfl
end
end Go.Proofs.YteapfopaiocpeaaGreatDoor
