/- A reader of package scan: what its small functions do. The functions' code is printed by a program. -/
import Derived.Test.YteapfopaiocpeaaGreatDoorCl
import Derived.Test.YteapfopaiocpeaaGreatDoorSm
namespace Go.Proofs.YteapfopaiocpeaaGreatDoor
set_option linter.unusedSimpArgs false
set_option linter.unusedVariables false
set_option linter.unnecessarySimpa false
set_option linter.defProp false
noncomputable section
def sU (v0 v1 v2 v11:AV):Tm:=(.nd 2 (.nd 1 (.lf 0 v0) (.lf 1 v1)) (.nd 11 (.lf 2 v2) (.lf 11 v11)))
def ab6 (mx:Int):K:=kAt [] (kOf (CL mx) 114)
section
set_option maxRecDepth 100000
variable (mx:Int) (run:Run) (lp:Lp) (κn:Kt) (κx:Ex→Kt) (h:AH) (v0 v1 v2 v11:AV)
theorem afx:kc (CL mx) run lp (ab6 mx) ⟨sU v0 v1 v2 v11,h⟩ κn κx=az v0 h (fun a0 h=>aj 20 a0 h (fun a1 h=>aj 0 a1 h (fun a2 h=>ao a2 h (fun a3 h=>cmp bP a3 (.int 9223372036854775807 0) h (fun a4 h=>bn a4 (gD (placeOf (CL mx) [(0,25),(1,3)]) [.int 9223372036854775807 0,.int 9223372036854775807 0] [(0,v1),(1,v2)] h (fun a5 h=>az v0 h (fun a6 h=>aj 20 a6 h (fun a7 h=>aL 2 a7 a5 h (fun a8 h=>κn ⟨sU v0 v1 v2 a4,h⟩))))) (κn ⟨sU v0 v1 v2 a4,h⟩)))))):=by kernel_rfl
theorem aib:kcE (CL mx) [] ⟨sU v0 v1 v2 v11,h⟩=some (.vh (.tup []) h):=(bH _ _ _).trans (by kernel_rfl)
theorem aoX:cZ (CL mx) 114=some ⟨ab6 mx,[0,1,2,11],18,[]⟩:=by kernel_rfl
end
theorem ale (mx:Int) (run:Run) (lp:Lp) (x0 x1 x2:AV) (h:AH):cP (CL mx) run lp 114 [x0,x1,x2] h=vhO (kc (CL mx) run lp (ab6 mx) ⟨sU x0 x1 x2 .bot,h⟩ (kcE (CL mx) []) (kcQ (CL mx) [])):=(bI (by kernel_rfl) (aoX mx) (by kernel_rfl)).trans (by kernel_rfl)
def abE:=And.intro @afx (@aib)
def aeD (v0 v2:AV):Tm:=(.nd 2 (.lf 0 v0) (.lf 2 v2))
def amb (mx:Int):K:=kAt [] (kOf (CL mx) 112)
section
set_option maxRecDepth 100000
variable (mx:Int) (run:Run) (lp:Lp) (κn:Kt) (κx:Ex→Kt) (h:AH) (v0 v2:AV)
theorem ajI:kc (CL mx) run lp (amb mx) ⟨aeD v0 v2,h⟩ κn κx=az v0 h (fun a0 h=>aj 20 a0 h (fun a1 h=>aj 0 a1 h (fun a2 h=>ao a2 h (fun a3 h=>cmp bP a3 (.int 9223372036854775807 0) h (fun a4 h=>κx .ret ⟨aeD v0 a4,h⟩))))):=by kernel_rfl
theorem anb:kcE (CL mx) [.tmp 2] ⟨aeD v0 v2,h⟩=some (.vh v2 h):=(bH _ _ _).trans (by kernel_rfl)
theorem aqb:cZ (CL mx) 112=some ⟨amb mx,[0,2],9,[.tmp 2]⟩:=by kernel_rfl
end
theorem am3 (mx:Int) (run:Run) (lp:Lp) (x0:AV) (h:AH):cP (CL mx) run lp 112 [x0] h=vhO (kc (CL mx) run lp (amb mx) ⟨aeD x0 .bot,h⟩ (kcE (CL mx) [.tmp 2]) (kcQ (CL mx) [.tmp 2])):=(bI (by kernel_rfl) (aqb mx) (by kernel_rfl)).trans (by kernel_rfl)
def asN:=And.intro @ajI (@anb)
def kJ (v0 v2 v8:AV):Tm:=(.nd 2 (.lf 0 v0) (.nd 8 (.lf 2 v2) (.lf 8 v8)))
def acM (mx:Int):K:=kAt [] (kOf (CL mx) 178)
def al9 (mx:Int):K:=kAt [1,1,0] (kOf (CL mx) 178)
def amh (mx:Int):K:=kAt [1,1,1] (kOf (CL mx) 178)
section
set_option maxRecDepth 100000
variable (mx:Int) (run:Run) (lp:Lp) (κn:Kt) (κx:Ex→Kt) (h:AH) (v0 v2 v8:AV)
theorem ahi:kc (CL mx) run lp (acM mx) ⟨kJ v0 v2 v8,h⟩ κn κx=az v0 h (fun a0 h=>aj 17 a0 h (fun a1 h=>ao a1 h (fun a2 h=>bF a2 h (fun a3 h=>cmp bP a3 (.int 9223372036854775807 0) h (fun a4 h=>bn a4 (κx .ret ⟨kJ v0 (.int 9223372036854775807 4611686018427387904) a4,h⟩) (kc (CL mx) run lp (al9 mx) ⟨kJ v0 (.int 9223372036854775807 0) a4,h⟩ (fun s=>kc (CL mx) run lp (amh mx) s κn κx) κx)))))):=by kernel_rfl
theorem afJ:kc (CL mx) run lp (al9 mx) ⟨kJ v0 v2 v8,h⟩ κn κx=az v0 h (fun a0 h=>aj 17 a0 h (fun a1 h=>ao a1 h (fun a2 h=>az v0 h (fun a3 h=>aj 17 a3 h (fun a4 h=>ao a4 h (fun a5 h=>bF a5 h (fun a6 h=>arith gU a6 (.int 9223372036854775807 1) h (fun a7 h=>bL 1 a2 a7 h (fun a8 h=>ao a8 h (fun a9 h=>κn ⟨kJ v0 a9 v8,h⟩)))))))))):=(bV (C:=CL mx) (ops:=opsOf (cAt [1,1,0] (aD (CL mx) 178))) (ps:=[0,2,8]) (by kernel_rfl) (by kernel_rfl) _ _ _).trans (by kernel_rfl)
theorem afq:kc (CL mx) run lp (amh mx) ⟨kJ v0 v2 v8,h⟩ κn κx=κx .ret ⟨kJ v0 v2 v8,h⟩:=by kernel_rfl
theorem al0:kcE (CL mx) [.tmp 2] ⟨kJ v0 v2 v8,h⟩=some (.vh v2 h):=(bH _ _ _).trans (by kernel_rfl)
theorem aoD:cZ (CL mx) 178=some ⟨acM mx,[0,2,8],21,[.tmp 2]⟩:=by kernel_rfl
end
theorem ah9 (mx:Int) (run:Run) (lp:Lp) (x0:AV) (h:AH):cP (CL mx) run lp 178 [x0] h=vhO (kc (CL mx) run lp (acM mx) ⟨kJ x0 .bot .bot,h⟩ (kcE (CL mx) [.tmp 2]) (kcQ (CL mx) [.tmp 2])):=(bI (by kernel_rfl) (aoD mx) (by kernel_rfl)).trans (by kernel_rfl)
def aqQ:=And.intro @ahi (And.intro @afJ (And.intro @afq (@al0)))
def cJ (v0 v1 v3 v4 v22:AV):Tm:=(.nd 3 (.nd 1 (.lf 0 v0) (.lf 1 v1)) (.nd 4 (.lf 3 v3) (.nd 22 (.lf 4 v4) (.lf 22 v22))))
def aa5 (mx:Int):K:=kAt [] (kOf (CL mx) 170)
def ajP (mx:Int):K:=kAt [1,0] (kOf (CL mx) 170)
def acY (mx:Int):K:=kAt [1,1] (kOf (CL mx) 170)
def amz (mx:Int):K:=kAt [1,0,0,0] (kOf (CL mx) 170)
def amF (mx:Int):K:=kAt [1,0,0,1] (kOf (CL mx) 170)
def abp (mx:Int):K:=kAt [1,1,1] (kOf (CL mx) 170)
def aiG (mx:Int):K:=kAt [1,0,0,1,1,0] (kOf (CL mx) 170)
def air (mx:Int):K:=kAt [1,0,0,1,1,1] (kOf (CL mx) 170)
section
set_option maxRecDepth 100000
variable (mx:Int) (run:Run) (lp:Lp) (κn:Kt) (κx:Ex→Kt) (h:AH) (v0 v1 v3 v4 v22:AV)
theorem agy:kc (CL mx) run lp (aa5 mx) ⟨cJ v0 v1 v3 v4 v22,h⟩ κn κx=gN 70 v1 h (fun a0 h=>kc (CL mx) run lp (ajP mx) ⟨cJ v0 v1 a0 v4 v22,h⟩ (fun s=>kc (CL mx) run lp (acY mx) s κn κx) κx):=by kernel_rfl
theorem qN:kc (CL mx) run lp (ajP mx) ⟨cJ v0 v1 v3 v4 v22,h⟩ κn κx=kc (CL mx) run lp (amz mx) ⟨cJ v0 v1 v3 v4 v22,h⟩ (fun s=>kc (CL mx) run lp (amF mx) s κn (kcO 0 κn κx)) (kcO 0 κn κx):=by kernel_rfl
theorem ag4:kc (CL mx) run lp (acY mx) ⟨cJ v0 v1 v3 v4 v22,h⟩ κn κx=az v0 h (fun a0 h=>aj 12 a0 h (fun a1 h=>ao a1 h (fun a2 h=>arith dX a2 (.int 9223372036854775807 1) h (fun a3 h=>az v0 h (fun a4 h=>aj 12 a4 h (fun a5 h=>bS a5 a3 h (fun a6 h=>kc (CL mx) run lp (abp mx) ⟨cJ v0 v1 v3 v4 v22,h⟩ κn κx))))))):=by kernel_rfl
theorem qV:kc (CL mx) run lp (amz mx) ⟨cJ v0 v1 v3 v4 v22,h⟩ κn κx=az v0 h (fun a0 h=>aj 16 a0 h (fun a1 h=>ao a1 h (fun a2 h=>bF a2 h (fun a3 h=>az v0 h (fun a4 h=>aj 7 a4 h (fun a5 h=>aj 1 a5 h (fun a6 h=>ao a6 h (fun a7 h=>cmp igt a3 a7 h (fun a8 h=>κn ⟨cJ v0 v1 v3 a8 v22,h⟩))))))))):=(bV (C:=CL mx) (ops:=opsOf (cAt [1,0,0,0] (aD (CL mx) 170))) (ps:=[0,1,3,4,22]) (by kernel_rfl) (by kernel_rfl) _ _ _).trans (by kernel_rfl)
theorem qE:kc (CL mx) run lp (amF mx) ⟨cJ v0 v1 v3 v4 v22,h⟩ κn κx=bn v4 (az v0 h (fun a0 h=>aj 10 a0 h (fun a1 h=>ao a1 h (fun a2 h=>aJ (fun a3 h=>κn ⟨cJ v0 v1 v3 v4 v22,h⟩) (aE (CL mx) run 114 [v0,(.int 9223372036854775807 218),a2] h))))) (kc (CL mx) run lp (aiG mx) ⟨cJ v0 v1 v3 v4 v22,h⟩ (fun s=>kc (CL mx) run lp (air mx) s κn κx) κx):=by kernel_rfl
theorem ae9:kc (CL mx) run lp (abp mx) ⟨cJ v0 v1 v3 v4 v22,h⟩ κn κx=kc2 (fun κ=>az v0 h (fun a0 h=>aj 16 a0 h (fun a1 h=>ao a1 h (fun a2 h=>aO 4 v3 h (fun a3 h=>bF a2 h (fun a4 h=>jf 4 1 [.int 18446744073709551615 0,.bool false,.nils,.nils] [(0,(.agg [.int 18446744073709551615 0,.bool false,.nils,.nils]))] h (fun a5 h=>ij 70 4 64 a2 a5 h (fun a6 h1=>bq (Nat.ble (ag h) (ag h1)) ((fun h=>bL 4 a6 a4 h (fun a7 h=>aL 4 a7 a3 h (fun a8 h1=>bq (Nat.ble (ag h) (ag h1)) ((fun h=>az v0 h (fun a9 h1=>bq (AV.lt (ag h) a9) ((fun h=>aj 16 a9 h (fun a10 h1=>bq (AV.lt (ag h) a10) ((fun h=>bS a10 a6 h (fun a11 h1=>bq (Nat.ble (ag h) (ag h1)) ((fun h=>κ ⟨cJ v0 v1 v3 v4 v22,h⟩) h1) none)) h1) none)) h1) none)) h1) none))) h1) none)))))))) (fun κ=>az v0 h (fun a0 h=>aj 16 a0 h (fun a1 h=>ao a1 h (fun a2 h=>aO 4 v3 h (fun a3 h=>bF a2 h (fun a4 h=>jf 4 1 [.int 18446744073709551615 0,.bool false,.nils,.nils] [(0,(.agg [.int 18446744073709551615 0,.bool false,.nils,.nils]))] h (fun a5 h=>ij 70 4 64 a2 a5 h (fun a6 h1=>bq (Nat.ble (ag h) (ag h1)) ((fun h=>bL 4 a6 a4 h (fun a7 h1=>bq (AV.lt (ag h) a7) ((fun h=>az v0 h (fun a8 h=>aj 16 a8 h (fun a9 h=>bS a9 a6 h (fun a10 h1=>bq (Nat.ble (ag h) (ag h1)) ((fun h=>aL 4 a7 a3 h (fun a11 h1=>bq (Nat.ble (ag h) (ag h1)) ((fun h=>κ ⟨cJ v0 v1 v3 v4 v22,h⟩) h1) none)) h1) none)))) h1) none)) h1) none)))))))) κn:=(vC (C:=CL mx) (ops1:=dA (opsOf (cAt [1,1,1] (aD (CL mx) 170))) 9 12) (ops2:=dy (opsOf (cAt [1,1,1] (aD (CL mx) 170))) 9 12) (ps:=[0,1,3,4,22]) (by kernel_rfl) (by kernel_rfl) (by kernel_rfl) _ _ _).trans (by kernel_rfl)
theorem wx:kc (CL mx) run lp (aiG mx) ⟨cJ v0 v1 v3 v4 v22,h⟩ κn κx=az v0 h (fun a0 h=>aj 12 a0 h (fun a1 h=>ao a1 h (fun a2 h=>az v0 h (fun a3 h=>aj 7 a3 h (fun a4 h=>aj 2 a4 h (fun a5 h=>ao a5 h (fun a6 h=>cmp ige a2 a6 h (fun a7 h=>κn ⟨cJ v0 v1 v3 v4 a7,h⟩)))))))):=(bV (C:=CL mx) (ops:=opsOf (cAt [1,0,0,1,1,0] (aD (CL mx) 170))) (ps:=[0,1,3,4,22]) (by kernel_rfl) (by kernel_rfl) _ _ _).trans (by kernel_rfl)
theorem we:kc (CL mx) run lp (air mx) ⟨cJ v0 v1 v3 v4 v22,h⟩ κn κx=bn v22 (az v0 h (fun a0 h=>aj 10 a0 h (fun a1 h=>ao a1 h (fun a2 h=>aJ (fun a3 h=>κn ⟨cJ v0 v1 v3 v4 v22,h⟩) (aE (CL mx) run 114 [v0,(.int 9223372036854775807 219),a2] h))))) (κn ⟨cJ v0 v1 v3 v4 v22,h⟩):=by kernel_rfl
theorem tx:kcE (CL mx) [] ⟨cJ v0 v1 v3 v4 v22,h⟩=some (.vh (.tup []) h):=(bH _ _ _).trans (by kernel_rfl)
theorem aou:cZ (CL mx) 170=some ⟨aa5 mx,[0,1,3,4,22],57,[]⟩:=by kernel_rfl
end
theorem ai2 (mx:Int) (run:Run) (lp:Lp) (x0 x1:AV) (h:AH):cP (CL mx) run lp 170 [x0,x1] h=vhO (kc (CL mx) run lp (aa5 mx) ⟨cJ x0 x1 .bot .bot .bot,h⟩ (kcE (CL mx) []) (kcQ (CL mx) [])):=(bI (by kernel_rfl) (aou mx) (by kernel_rfl)).trans (by kernel_rfl)
def kn (v0 v2 v3:AV):Tm:=(.nd 2 (.lf 0 v0) (.nd 3 (.lf 2 v2) (.lf 3 v3)))
def acu (mx:Int):K:=kAt [] (kOf (CL mx) 171)
def akG (mx:Int):K:=kAt [1,1,0] (kOf (CL mx) 171)
def alC (mx:Int):K:=kAt [1,1,1] (kOf (CL mx) 171)
section
set_option maxRecDepth 100000
variable (mx:Int) (run:Run) (lp:Lp) (κn:Kt) (κx:Ex→Kt) (h:AH) (v0 v2 v3:AV)
theorem afk:kc (CL mx) run lp (acu mx) ⟨kn v0 v2 v3,h⟩ κn κx=az v0 h (fun a0 h=>aj 16 a0 h (fun a1 h=>ao a1 h (fun a2 h=>bF a2 h (fun a3 h=>arith gU a3 (.int 9223372036854775807 1) h (fun a4 h=>az v0 h (fun a5 h=>aj 16 a5 h (fun a6 h=>ao a6 h (fun a7 h=>arith gU a4 (.int 9223372036854775807 1) h (fun a8 h=>bL 4 a7 a8 h (fun a9 h=>kc (CL mx) run lp (akG mx) ⟨kn v0 a4 a9,h⟩ (fun s=>kc (CL mx) run lp (alC mx) s κn κx) κx)))))))))):=by kernel_rfl
theorem ae4:kc (CL mx) run lp (akG mx) ⟨kn v0 v2 v3,h⟩ κn κx=kc2 (fun κ=>az v3 h (fun a0 h=>aj 3 a0 h (fun a1 h=>ao a1 h (fun a2 h=>az v0 h (fun a3 h=>aj 16 a3 h (fun a4 h=>ao a4 h (fun a5 h=>bL 4 a5 v2 h (fun a6 h=>aO 4 a6 h (fun a7 h=>bF a2 h (fun a8 h=>jf 4 1 [.int 18446744073709551615 0,.bool false,.nils,.nils] [(0,(.agg [.int 18446744073709551615 0,.bool false,.nils,.nils]))] h (fun a9 h=>ij 70 4 64 a2 a9 h (fun a10 h1=>bq (Nat.ble (ag h) (ag h1)) ((fun h=>bL 4 a10 a8 h (fun a11 h=>aL 4 a11 a7 h (fun a12 h1=>bq (Nat.ble (ag h) (ag h1)) ((fun h=>az v3 h (fun a13 h1=>bq (AV.lt (ag h) a13) ((fun h=>aj 3 a13 h (fun a14 h1=>bq (AV.lt (ag h) a14) ((fun h=>bS a14 a10 h (fun a15 h1=>bq (Nat.ble (ag h) (ag h1)) ((fun h=>κ ⟨kn v0 v2 v3,h⟩) h1) none)) h1) none)) h1) none)) h1) none))) h1) none)))))))))))) (fun κ=>az v3 h (fun a0 h=>aj 3 a0 h (fun a1 h=>ao a1 h (fun a2 h=>az v0 h (fun a3 h=>aj 16 a3 h (fun a4 h=>ao a4 h (fun a5 h=>bL 4 a5 v2 h (fun a6 h=>aO 4 a6 h (fun a7 h=>bF a2 h (fun a8 h=>jf 4 1 [.int 18446744073709551615 0,.bool false,.nils,.nils] [(0,(.agg [.int 18446744073709551615 0,.bool false,.nils,.nils]))] h (fun a9 h=>ij 70 4 64 a2 a9 h (fun a10 h1=>bq (Nat.ble (ag h) (ag h1)) ((fun h=>bL 4 a10 a8 h (fun a11 h1=>bq (AV.lt (ag h) a11) ((fun h=>az v3 h (fun a12 h=>aj 3 a12 h (fun a13 h=>bS a13 a10 h (fun a14 h1=>bq (Nat.ble (ag h) (ag h1)) ((fun h=>aL 4 a11 a7 h (fun a15 h1=>bq (Nat.ble (ag h) (ag h1)) ((fun h=>κ ⟨kn v0 v2 v3,h⟩) h1) none)) h1) none)))) h1) none)) h1) none)))))))))))) κn:=(vC (C:=CL mx) (ops1:=dA (opsOf (cAt [1,1,0] (aD (CL mx) 171))) 15 18) (ops2:=dy (opsOf (cAt [1,1,0] (aD (CL mx) 171))) 15 18) (ps:=[0,2,3]) (by kernel_rfl) (by kernel_rfl) (by kernel_rfl) _ _ _).trans (by kernel_rfl)
theorem ae8:kc (CL mx) run lp (alC mx) ⟨kn v0 v2 v3,h⟩ κn κx=az v0 h (fun a0 h=>aj 16 a0 h (fun a1 h=>ao a1 h (fun a2 h=>slS 4 a2 none (some v2) none h (fun a3 h=>az v0 h (fun a4 h=>aj 16 a4 h (fun a5 h=>bS a5 a3 h (fun a6 h=>κn ⟨kn v0 v2 v3,h⟩))))))):=by kernel_rfl
theorem ak2:kcE (CL mx) [] ⟨kn v0 v2 v3,h⟩=some (.vh (.tup []) h):=(bH _ _ _).trans (by kernel_rfl)
theorem aoa:cZ (CL mx) 171=some ⟨acu mx,[0,2,3],43,[]⟩:=by kernel_rfl
end
theorem aka (mx:Int) (run:Run) (lp:Lp) (x0:AV) (h:AH):cP (CL mx) run lp 171 [x0] h=vhO (kc (CL mx) run lp (acu mx) ⟨kn x0 .bot .bot,h⟩ (kcE (CL mx) []) (kcQ (CL mx) [])):=(bI (by kernel_rfl) (aoa mx) (by kernel_rfl)).trans (by kernel_rfl)
def mN (v0 v1 v3:AV):Tm:=(.nd 1 (.lf 0 v0) (.nd 3 (.lf 1 v1) (.lf 3 v3)))
def acW (mx:Int):K:=kAt [] (kOf (CL mx) 175)
def ajt (mx:Int):K:=kAt [1,0] (kOf (CL mx) 175)
def akq (mx:Int):K:=kAt [1,1] (kOf (CL mx) 175)
section
set_option maxRecDepth 100000
variable (mx:Int) (run:Run) (lp:Lp) (κn:Kt) (κx:Ex→Kt) (h:AH) (v0 v1 v3:AV)
theorem afY:kc (CL mx) run lp (acW mx) ⟨mN v0 v1 v3,h⟩ κn κx=gN 70 v1 h (fun a0 h=>kc (CL mx) run lp (ajt mx) ⟨mN v0 v1 a0,h⟩ (fun s=>kc (CL mx) run lp (akq mx) s κn κx) κx):=by kernel_rfl
theorem ahu:kc (CL mx) run lp (ajt mx) ⟨mN v0 v1 v3,h⟩ κn κx=az v0 h (fun a0 h=>aj 16 a0 h (fun a1 h=>ao a1 h (fun a2 h=>az v0 h (fun a3 h=>aj 16 a3 h (fun a4 h=>ao a4 h (fun a5 h=>bF a5 h (fun a6 h=>arith gU a6 (.int 9223372036854775807 1) h (fun a7 h=>aO 4 v3 h (fun a8 h=>bL 4 a2 a7 h (fun a9 h=>aL 4 a9 a8 h (fun a10 h1=>bq (Nat.ble (ag h) (ag h1)) ((fun h=>κn ⟨mN v0 v1 v3,h⟩) h1) none))))))))))):=(bV (C:=CL mx) (ops:=opsOf (cAt [1,0] (aD (CL mx) 175))) (ps:=[0,1,3]) (by kernel_rfl) (by kernel_rfl) _ _ _).trans (by kernel_rfl)
theorem agl:kc (CL mx) run lp (akq mx) ⟨mN v0 v1 v3,h⟩ κn κx=aJ (fun a0 h=>κn ⟨mN v0 v1 v3,h⟩) (aE (CL mx) run 171 [v0] h):=by kernel_rfl
theorem alM:kcE (CL mx) [] ⟨mN v0 v1 v3,h⟩=some (.vh (.tup []) h):=(bH _ _ _).trans (by kernel_rfl)
theorem anj:cZ (CL mx) 175=some ⟨acW mx,[0,1,3],18,[]⟩:=by kernel_rfl
end
theorem amS (mx:Int) (run:Run) (lp:Lp) (x0 x1:AV) (h:AH):cP (CL mx) run lp 175 [x0,x1] h=vhO (kc (CL mx) run lp (acW mx) ⟨mN x0 x1 .bot,h⟩ (kcE (CL mx) []) (kcQ (CL mx) [])):=(bI (by kernel_rfl) (anj mx) (by kernel_rfl)).trans (by kernel_rfl)
def bT (v0 v1 v2 v6 v7 v8 v15 v47 v58:AV):Tm:=(.nd 7 (.nd 2 (.nd 1 (.lf 0 v0) (.lf 1 v1)) (.nd 6 (.lf 2 v2) (.lf 6 v6))) (.nd 15 (.nd 8 (.lf 7 v7) (.lf 8 v8)) (.nd 47 (.lf 15 v15) (.nd 58 (.lf 47 v47) (.lf 58 v58)))))
def acz (mx:Int):K:=kAt [] (kOf (CL mx) 176)
def akO (mx:Int):K:=kAt [1,1,0] (kOf (CL mx) 176)
def aiQ (mx:Int):K:=kAt [1,1,1] (kOf (CL mx) 176)
def ak9 (mx:Int):K:=kAt [1,1,0,0] (kOf (CL mx) 176)
def ajw (mx:Int):K:=kAt [1,1,0,1] (kOf (CL mx) 176)
def amR (mx:Int):K:=kAt [1,1,1,0] (kOf (CL mx) 176)
def ajv (mx:Int):K:=kAt [1,1,1,1] (kOf (CL mx) 176)
def ahU (mx:Int):K:=kAt [1,1,0,1,0] (kOf (CL mx) 176)
def ajd (mx:Int):K:=kAt [1,1,0,1,1] (kOf (CL mx) 176)
def ah0 (mx:Int):K:=kAt [1,1,0,1,1,0,0] (kOf (CL mx) 176)
def ad5 (mx:Int):K:=kAt [1,1,0,1,1,0,1] (kOf (CL mx) 176)
def aef (mx:Int):K:=kAt [1,1,0,1,1,0,0,0] (kOf (CL mx) 176)
def aeg (mx:Int):K:=kAt [1,1,0,1,1,0,0,1] (kOf (CL mx) 176)
section
set_option maxRecDepth 100000
variable (mx:Int) (run:Run) (lp:Lp) (κn:Kt) (κx:Ex→Kt) (h:AH) (v0 v1 v2 v6 v7 v8 v15 v47 v58:AV)
theorem ahw:kc (CL mx) run lp (acz mx) ⟨bT v0 v1 v2 v6 v7 v8 v15 v47 v58,h⟩ κn κx=aJ (fun a0 h=>arith gU a0 v2 h (fun a1 h=>cvI 18446744073709551615 a1 h (fun a2 h=>cmp igt v1 a2 h (fun a3 h=>bn a3 (aJ (fun a4 h=>κx .ret ⟨bT v0 v1 v2 (.nils) v7 v8 a3 v47 v58,h⟩) (aE (CL mx) run 114 [v0,(.int 9223372036854775807 214),v2] h)) (kc (CL mx) run lp (akO mx) ⟨bT v0 v1 v2 (.nils) v7 v8 a3 v47 v58,h⟩ (fun s=>kc (CL mx) run lp (aiQ mx) s κn κx) κx))))) (aE (CL mx) run 178 [v0] h):=by kernel_rfl
theorem qO:kc (CL mx) run lp (akO mx) ⟨bT v0 v1 v2 v6 v7 v8 v15 v47 v58,h⟩ κn κx=kc (CL mx) run lp (ak9 mx) ⟨bT v0 v1 v2 v6 v7 v8 v15 v47 v58,h⟩ (fun s=>kc (CL mx) run lp (ajw mx) s κn κx) κx:=by kernel_rfl
theorem qT:kc (CL mx) run lp (aiQ mx) ⟨bT v0 v1 v2 v6 v7 v8 v15 v47 v58,h⟩ κn κx=kc (CL mx) run lp (amR mx) ⟨bT v0 v1 v2 v6 v7 v8 v15 v47 v58,h⟩ (fun s=>kc (CL mx) run lp (ajv mx) s κn κx) κx:=by kernel_rfl
theorem qH:kc (CL mx) run lp (ak9 mx) ⟨bT v0 v1 v2 v6 v7 v8 v15 v47 v58,h⟩ κn κx=az v0 h (fun a0 h=>aj 6 a0 h (fun a1 h=>ao a1 h (fun a2 h=>bF a2 h (fun a3 h=>az v0 h (fun a4 h=>aj 10 a4 h (fun a5 h=>ao a5 h (fun a6 h=>arith gU a3 a6 h (fun a7 h=>κn ⟨bT v0 v1 v2 v6 a7 v8 v15 v47 v58,h⟩)))))))):=(bV (C:=CL mx) (ops:=opsOf (cAt [1,1,0,0] (aD (CL mx) 176))) (ps:=[0,1,2,6,7,8,15,47,58]) (by kernel_rfl) (by kernel_rfl) _ _ _).trans (by kernel_rfl)
theorem qS:kc (CL mx) run lp (ajw mx) ⟨bT v0 v1 v2 v6 v7 v8 v15 v47 v58,h⟩ κn κx=kc (CL mx) run lp (ahU mx) ⟨bT v0 v1 v2 v6 v7 v8 v15 v47 v58,h⟩ (fun s=>kc (CL mx) run lp (ajd mx) s κn κx) κx:=by kernel_rfl
theorem wu:kc (CL mx) run lp (amR mx) ⟨bT v0 v1 v2 v6 v7 v8 v15 v47 v58,h⟩ κn κx=az v0 h (fun a0 h=>aj 6 a0 h (fun a1 h=>ao a1 h (fun a2 h=>az v0 h (fun a3 h=>aj 10 a3 h (fun a4 h=>ao a4 h (fun a5 h=>az v0 h (fun a6 h=>aj 10 a6 h (fun a7 h=>ao a7 h (fun a8 h=>cvI 9223372036854775807 v1 h (fun a9 h=>arith dX a8 a9 h (fun a10 h=>slS 1 a2 (some a5) (some a10) none h (fun a11 h=>ij 6 1 1 (.nils) a11 h (fun a12 h1=>bq (Nat.ble (ag h) (ag h1)) ((fun h=>κn ⟨bT v0 v1 v2 v6 v7 a12 v15 v47 v58,h⟩) h1) none))))))))))))):=(bV (C:=CL mx) (ops:=opsOf (cAt [1,1,1,0] (aD (CL mx) 176))) (ps:=[0,1,2,6,7,8,15,47,58]) (by kernel_rfl) (by kernel_rfl) _ _ _).trans (by kernel_rfl)
theorem wF:kc (CL mx) run lp (ajv mx) ⟨bT v0 v1 v2 v6 v7 v8 v15 v47 v58,h⟩ κn κx=az v0 h (fun a0 h=>aj 10 a0 h (fun a1 h=>ao a1 h (fun a2 h=>cvI 9223372036854775807 v1 h (fun a3 h=>arith dX a2 a3 h (fun a4 h=>az v0 h (fun a5 h=>aj 10 a5 h (fun a6 h=>bS a6 a4 h (fun a7 h=>κx .ret ⟨bT v0 v1 v2 v8 v7 v8 v15 v47 v58,h⟩)))))))):=by kernel_rfl
theorem qi:kc (CL mx) run lp (ahU mx) ⟨bT v0 v1 v2 v6 v7 v8 v15 v47 v58,h⟩ κn κx=cvI 18446744073709551615 v7 h (fun a0 h=>cmp igt v1 a0 h (fun a1 h=>ar a1 false (fun κ=>aN v1 h κ) h (fun a2 h=>ar a1 false (fun κ=>aN v0 h κ) h (fun a3 h=>ar a1 false (fun κ=>az a3 h κ) h (fun a4 h=>ar a1 false (fun κ=>aj 7 a4 h κ) h (fun a5 h=>ar a1 false (fun κ=>aj 0 a5 h κ) h (fun a6 h=>ar a1 false (fun κ=>ao a6 h κ) h (fun a7 h=>ar a1 false (fun κ=>aN v0 h κ) h (fun a8 h=>ar a1 false (fun κ=>az a8 h κ) h (fun a9 h=>ar a1 false (fun κ=>aj 10 a9 h κ) h (fun a10 h=>ar a1 false (fun κ=>ao a10 h κ) h (fun a11 h=>ar a1 false (fun κ=>arith gU a7 a11 h κ) h (fun a12 h=>ar a1 false (fun κ=>cvI 18446744073709551615 a12 h κ) h (fun a13 h=>ar a1 false (fun κ=>cmp igt a2 a13 h κ) h (fun a14 h=>dh a1 (.bool true) a14 h (fun a15 h=>κn ⟨bT v0 v1 v2 v6 v7 v8 v15 a15 v58,h⟩)))))))))))))))):=(bV (C:=CL mx) (ops:=opsOf (cAt [1,1,0,1,0] (aD (CL mx) 176))) (ps:=[0,1,2,6,7,8,15,47,58]) (by kernel_rfl) (by kernel_rfl) _ _ _).trans (by kernel_rfl)
theorem qc:kc (CL mx) run lp (ajd mx) ⟨bT v0 v1 v2 v6 v7 v8 v15 v47 v58,h⟩ κn κx=bn v47 (kc (CL mx) run lp (ah0 mx) ⟨bT v0 v1 v2 v6 v7 v8 v15 v47 v58,h⟩ (fun s=>kc (CL mx) run lp (ad5 mx) s κn κx) κx) (κn ⟨bT v0 v1 v2 v6 v7 v8 v15 v47 v58,h⟩):=by kernel_rfl
theorem afA:kc (CL mx) run lp (ah0 mx) ⟨bT v0 v1 v2 v6 v7 v8 v15 v47 v58,h⟩ κn κx=kc (CL mx) run lp (aef mx) ⟨bT v0 v1 v2 v6 v7 v8 v15 v47 v58,h⟩ (fun s=>kc (CL mx) run lp (aeg mx) s κn κx) κx:=by kernel_rfl
theorem abI:kc (CL mx) run lp (ad5 mx) ⟨bT v0 v1 v2 v6 v7 v8 v15 v47 v58,h⟩ κn κx=az v0 h (fun a0 h=>aj 6 a0 h (fun a1 h=>ao a1 h (fun a2 h=>bF a2 h (fun a3 h=>aJ (fun a4 h=>κx .ret ⟨bT v0 v1 v2 (.nils) v7 v8 v15 v47 v58,h⟩) (aE (CL mx) run 114 [v0,(.int 9223372036854775807 10),a3] h))))):=by kernel_rfl
theorem acq:kc (CL mx) run lp (aef mx) ⟨bT v0 v1 v2 v6 v7 v8 v15 v47 v58,h⟩ κn κx=az v0 h (fun a0 h=>aj 7 a0 h (fun a1 h=>aj 0 a1 h (fun a2 h=>ao a2 h (fun a3 h=>az v0 h (fun a4 h=>aj 6 a4 h (fun a5 h=>ao a5 h (fun a6 h=>bF a6 h (fun a7 h=>cmp ilt a3 a7 h (fun a8 h=>κn ⟨bT v0 v1 v2 v6 v7 v8 v15 v47 a8,h⟩))))))))):=(bV (C:=CL mx) (ops:=opsOf (cAt [1,1,0,1,1,0,0,0] (aD (CL mx) 176))) (ps:=[0,1,2,6,7,8,15,47,58]) (by kernel_rfl) (by kernel_rfl) _ _ _).trans (by kernel_rfl)
theorem acS:kc (CL mx) run lp (aeg mx) ⟨bT v0 v1 v2 v6 v7 v8 v15 v47 v58,h⟩ κn κx=bn v58 (az v0 h (fun a0 h=>aj 7 a0 h (fun a1 h=>aj 0 a1 h (fun a2 h=>ao a2 h (fun a3 h=>aJ (fun a4 h=>κn ⟨bT v0 v1 v2 v6 v7 v8 v15 v47 v58,h⟩) (aE (CL mx) run 114 [v0,(.int 9223372036854775807 217),a3] h)))))) (κn ⟨bT v0 v1 v2 v6 v7 v8 v15 v47 v58,h⟩):=by kernel_rfl
theorem pT:kcE (CL mx) [.tmp 6] ⟨bT v0 v1 v2 v6 v7 v8 v15 v47 v58,h⟩=some (.vh v6 h):=(bH _ _ _).trans (by kernel_rfl)
theorem aob:cZ (CL mx) 176=some ⟨acz mx,[0,1,2,6,7,8,15,47,58],100,[.tmp 6]⟩:=by kernel_rfl
end
theorem ahL (mx:Int) (run:Run) (lp:Lp) (x0 x1 x2:AV) (h:AH):cP (CL mx) run lp 176 [x0,x1,x2] h=vhO (kc (CL mx) run lp (acz mx) ⟨bT x0 x1 x2 .bot .bot .bot .bot .bot .bot,h⟩ (kcE (CL mx) [.tmp 6]) (kcQ (CL mx) [.tmp 6])):=(bI (by kernel_rfl) (aob mx) (by kernel_rfl)).trans (by kernel_rfl)
def dK (v0 v1 v4 v5 v12 v24:AV):Tm:=(.nd 5 (.nd 1 (.lf 0 v0) (.nd 4 (.lf 1 v1) (.lf 4 v4))) (.nd 12 (.lf 5 v5) (.nd 24 (.lf 12 v12) (.lf 24 v24))))
def abN (mx:Int):K:=kAt [] (kOf (CL mx) 224)
def aiX (mx:Int):K:=kAt [1,0] (kOf (CL mx) 224)
def alR (mx:Int):K:=kAt [1,1] (kOf (CL mx) 224)
def akn (mx:Int):K:=kAt [1,0,0] (kOf (CL mx) 224)
def akx (mx:Int):K:=kAt [1,0,1] (kOf (CL mx) 224)
section
set_option maxRecDepth 100000
variable (mx:Int) (run:Run) (lp:Lp) (κn:Kt) (κx:Ex→Kt) (h:AH) (v0 v1 v4 v5 v12 v24:AV)
theorem afv:kc (CL mx) run lp (abN mx) ⟨dK v0 v1 v4 v5 v12 v24,h⟩ κn κx=kc (CL mx) run lp (aiX mx) ⟨dK v0 v1 (.int 255 0) v5 v12 v24,h⟩ (fun s=>kc (CL mx) run lp (alR mx) s κn κx) κx:=by kernel_rfl
theorem agj:kc (CL mx) run lp (aiX mx) ⟨dK v0 v1 v4 v5 v12 v24,h⟩ κn κx=kc (CL mx) run lp (akn mx) ⟨dK v0 v1 v4 v5 v12 v24,h⟩ (fun s=>kc (CL mx) run lp (akx mx) s κn κx) κx:=by kernel_rfl
theorem agJ:kc (CL mx) run lp (alR mx) ⟨dK v0 v1 v4 v5 v12 v24,h⟩ κn κx=az v0 h (fun a0 h=>aj 10 a0 h (fun a1 h=>ao a1 h (fun a2 h=>aJ (fun a3 h=>bF a3 h (fun a4 h=>cmp bP a4 (.int 9223372036854775807 0) h (fun a5 h=>bn a5 (κx .ret ⟨dK v0 v1 (.int 255 0) a3 v12 a5,h⟩) (bL 1 a3 (.int 9223372036854775807 0) h (fun a6 h=>ao a6 h (fun a7 h=>κx .ret ⟨dK v0 v1 a7 a3 v12 a5,h⟩)))))) (aE (CL mx) run 176 [v0,(.int 18446744073709551615 1),a2] h)))):=by kernel_rfl
theorem agk:kc (CL mx) run lp (akn mx) ⟨dK v0 v1 v4 v5 v12 v24,h⟩ κn κx=kcR κn κx (eZ (sRd [] h (aN v0 h kVH) fun r0=>sRd [r0.v] r0.h' (az r0.v r0.h' kVH) fun r1=>sRd [r1.v,r0.v] r1.h' (aj 10 r1.v r1.h' kVH) fun r2=>sRd [r2.v,r1.v,r0.v] r2.h' (ao r2.v r2.h' kVH) fun r3=>sRd [r3.v,r2.v,r1.v,r0.v] r3.h' (aN v0 r3.h' kVH) fun r4=>sEf [r4.v,r3.v,r2.v,r1.v,r0.v] r4.h' (aJ kVH (aE (CL mx) run 178 [r4.v] r4.h')) fun r5=>sRd [r5.v,r4.v,r3.v,r2.v,r1.v,r0.v] r5.h' (cmp bP r3.v r5.v r5.h' kVH) fun r6=>bq (and (cj r0 (OK.f (.mk (o1 aN (.tr 0))) (CL mx) run r0.σ (dK v0 v1 v4 v5 v12 v24) (cu (ag r0.h) r5.h') kVH)) (and (cj r1 (OK.f (.mk (o1 az (.st 0))) (CL mx) run r1.σ (dK v0 v1 v4 v5 v12 v24) (cu (ag r1.h) r5.h') kVH)) (and (cj r2 (OK.f (.mk (o1 (aj 10) (.st 0))) (CL mx) run r2.σ (dK v0 v1 v4 v5 v12 v24) (cu (ag r2.h) r5.h') kVH)) (and (cj r3 (OK.f (.mk (o1 ao (.st 0))) (CL mx) run r3.σ (dK v0 v1 v4 v5 v12 v24) (cu (ag r3.h) r5.h') kVH)) (true))))) (some (.st (dK v0 v1 v4 v5 r6.v v24) r6.h')) none)):=(gy (C:=CL mx) (D:=bC (CL mx) (opsOf (cAt [1,0,0] (aD (CL mx) 224))).toList (bJ (opsOf (cAt [1,0,0] (aD (CL mx) 224))).toList) 0 (aU (CL mx) (opsOf (cAt [1,0,0] (aD (CL mx) 224))).toList [] (opsOf (cAt [1,0,0] (aD (CL mx) 224))).toList)) (pl:=bp (CL mx) (opsOf (cAt [1,0,0] (aD (CL mx) 224)))) (fl:=flL [0,1,4,5,12,24] (opsOf (cAt [1,0,0] (aD (CL mx) 224))).toList) (by kernel_rfl) _ _ _).trans (by kernel_rfl)
theorem ahl:kc (CL mx) run lp (akx mx) ⟨dK v0 v1 v4 v5 v12 v24,h⟩ κn κx=bn v12 (aJ (fun a0 h=>κx .ret ⟨dK v0 v1 (.int 255 0) v5 v12 v24,h⟩) (aE (CL mx) run 114 [v0,(.int 9223372036854775807 214),v1] h)) (κn ⟨dK v0 v1 v4 v5 v12 v24,h⟩):=by kernel_rfl
theorem acR:aW (dK v0 v1 v4 v5 v12 v24) 0=v0:=(rfl)
theorem aad:kcE (CL mx) [.tmp 4] ⟨dK v0 v1 v4 v5 v12 v24,h⟩=some (.vh v4 h):=(bH _ _ _).trans (by kernel_rfl)
theorem aoY:cZ (CL mx) 224=some ⟨abN mx,[0,1,4,5,12,24],28,[.tmp 4]⟩:=by kernel_rfl
end
theorem amP (mx:Int) (run:Run) (lp:Lp) (x0 x1:AV) (h:AH):cP (CL mx) run lp 224 [x0,x1] h=vhO (kc (CL mx) run lp (abN mx) ⟨dK x0 x1 .bot .bot .bot .bot,h⟩ (kcE (CL mx) [.tmp 4]) (kcQ (CL mx) [.tmp 4])):=(bI (by kernel_rfl) (aoY mx) (by kernel_rfl)).trans (by kernel_rfl)
end
section
variable {mx:Int} {m:Nat} {K:RC} {kd:Nat→Nat} {h:AH} {p:Nat} {c:PC} {s:PR}
structure Wf (c:PC) (s:PR):Prop where
 at_:s.at_≤c.data.length
 last:s.last≤c.data.length
 parts:s.parts≤1000000000
 dep:c.depth≤1000000
 stk:s.stack.length≤100000
theorem n64 (n:Nat):N64 n= .int 9223372036854775807 (n:Int):=rfl
theorem Nx.same {n:Nat} (R:RS m K kd h p c s):Nx n m K kd h p c s h:=⟨kd,R,Nat.le_refl _,fun i _ _=>⟨rfl,by assumption⟩⟩
theorem amg (R:RS m K kd h p c s) (f:Nat):aC (fun r h'=>r= .bool (decide (s.code=0))∧h'=h) ((rl (CL mx) (f+1)).run 112 [.pto p 0] h):=by
 refine aC.runs (n:=f) (am3 mx _ _ _ _) ?_
 obtain ⟨stp,y,sl,st,ct,cl,Q,hp,_⟩:=R.ex
 unfold rdL at hp
 have e:decide ((s.code:Int)=0)=decide (s.code=0):=by
  by_cases c:s.code=0
  ·rw [decide_eq_true c,decide_eq_true_iff];omega
  ·rw [decide_eq_false c,decide_eq_false_iff_not];omega
 simp only [sy,List.length_append,Nat.reduceAdd,Nat.reduceMul,Nat.reduceSub,Nat.reduceLeDiff,Nat.reduceEqDiff,Nat.reduceLT,reduceIte,asN,hp,n64,e]
 exact Ends.mk ⟨rfl,rfl⟩
theorem vA (R:RS m K kd h p c s) (f:Nat):aC (fun r h'=>r= .int 9223372036854775807 4611686018427387904∧h'=h) ((rl (CL mx) (f+1)).run 178 [.pto p 0] h):=by
 refine aC.runs (n:=f) (ah9 mx _ _ _ _) ?_
 obtain ⟨stp,y,sl,st,ct,cl,Q,hp,_⟩:=R.ex
 unfold rdL at hp
 simp only [sy,List.length_append,Nat.reduceAdd,Nat.reduceMul,Nat.reduceSub,Nat.reduceLeDiff,Nat.reduceEqDiff,Nat.reduceLT,reduceIte,aqQ,hp,decide_true]
 exact Ends.mk ⟨rfl,rfl⟩
theorem eI (R:RS m K kd h p c s) (e a:Nat) (f:Nat):aC (fun r h'=>r= .tup []∧RS m K kd h' p c (s.bf e a)∧h'.length=h.length∧ ∀i,kd i≠1→aa h' i=aa h i) ((rl (CL mx) (f+1)).run 114 [.pto p 0,.int 9223372036854775807 (e:Int),.int 9223372036854775807 (a:Int)] h):=by
 refine aC.runs (n:=f) (ale mx _ _ _ _ _ _) ?_
 obtain ⟨stp,y,sl,st,ct,cl,Q,hp,o2,o3,ok,o4,o5⟩:=R.ex
 have hp':=hp
 unfold rdL at hp'
 by_cases c0:s.code=0
 ·have g:decide ((s.code:Int)=0)=true:=by rw [decide_eq_true_iff];omega
  simp only [sy,List.length_append,Nat.reduceAdd,Nat.reduceMul,Nat.reduceSub,Nat.reduceLeDiff,Nat.reduceEqDiff,Nat.reduceLT,reduceIte,abE,hp',n64,g]
  refine wEq (dI (cs:=[.int 9223372036854775807 (e:Int),.int 9223372036854775807 (a:Int)]) (by kernel_rfl)) ?_
  simp only [sy,List.length_append,Nat.reduceAdd,Nat.reduceMul,Nat.reduceSub,Nat.reduceLeDiff,Nat.reduceEqDiff,Nat.reduceLT,reduceIte,abE,hp',n64]
  refine Ends.mk ⟨rfl,?_,by simp,fun i hi=>ae (fun cc=>hi (by rw [←cc];exact R.kp)) _⟩
  have:=R.upd (s':={s with code:=e,fat:=a}) (stp':=stp) (y':=y) o2 o3 ok o4 o5
  unfold PR.bf
  rw [if_pos c0]
  exact this
 ·have g:decide ((s.code:Int)=0)=false:=by rw [decide_eq_false_iff_not];omega
  simp only [sy,List.length_append,Nat.reduceAdd,Nat.reduceMul,Nat.reduceSub,Nat.reduceLeDiff,Nat.reduceEqDiff,Nat.reduceLT,reduceIte,abE,hp',n64,g]
  refine Ends.mk ⟨rfl,?_,rfl,fun i _=>rfl⟩
  unfold PR.bf
  rw [if_neg c0];exact R
def ZT:List AV:=[.int 18446744073709551615 0,.bool false,.nils,.nils]
theorem abv (h:AH) (κ:Ka):jf 4 1 [.int 18446744073709551615 0,.bool false,.nils,.nils] [(0,.agg [.int 18446744073709551615 0,.bool false,.nils,.nils])] h κ=κ (.slo h.length 0 1 1 4 true) (h++[some (.cells ZT 0)]):=by
 have e:jf 4 1 [.int 18446744073709551615 0,.bool false,.nils,.nils] [(0,.agg [.int 18446744073709551615 0,.bool false,.nils,.nils])] h κ=κ (.slo (ag h) 0 1 1 4 true) (aF h [some (.cells ZT 0)]):=by kernel_rfl
 rw [e,ah,aP]
theorem xl (h:AH):dJ (h++[some (.cells ZT 0)]) 4 1 (.slo h.length 0 1 1 4 true)=some ZT:=by
 unfold dJ
 simp only [aH]
 rfl
theorem vq {Q:Option Rs→Prop} (T:Tm) (HA HB:AH) (K:Option Rs) (e:HB=HA) (q:Q K):Q (bq (aeb ⟨T,HA⟩ ⟨T,HB⟩) K none):=by
 subst e
 rw [abr];exact q
theorem OwR.push {S:Nat→Prop} {v:AV} {rows:List (List AV)} {q:List AV} (r:OwR h S 4 v rows) (hl:rows.length≤100000) (hq:q.length=4) (hp:aV q=true) (ty:Nat) {by_:Nat} (hby:by_≤1000):
 ∃(v':AV) (h1:AH) (P:AV) (b:Nat) (X:Option Blk),(∀κ:Ka,ij ty 4 by_ v (.slo h.length 0 1 1 4 true) (h++[some (.cells ZT 0)]) κ=κ v' h1)∧h.length+1≤h1.length∧(∀i,¬S i→i<h.length→aa h1 i=aa h i)∧
  (∀(h':AH) (κ:Ka),bL 4 v' (.int 9223372036854775807 (rows.length:Int)) h' κ=κ P h')∧P.lt (ag h1)=true∧v'.plain=true∧((S b∧b<h.length)∨b=h.length+1)∧b<h1.length∧
  (∀κ:Ka,aL 4 P (.agg q) h1 κ=κ (.tup []) (h1.set b X))∧(∀(i:Nat) (Y:Option Blk),i≠b→ ∀κ:Ka,aL 4 P (.agg q) (h1.set i Y) κ=κ (.tup []) ((h1.set i Y).set b X))∧
  ∀h',aa h' b=X→OwR h' (fun i=>(S i∧i<h.length)∨i=h.length+1) 4 v' (rows++[q]):=by
 have r2:OwR (h++[some (Blk.cells ZT 0)]) (fun b=>S b∧b<h.length) 4 v rows:=r.mono fun b hb hs=>⟨⟨hs,hb⟩,ak hb _⟩
 obtain ⟨v',h1,a1,a2,a3,a4⟩:=r2.app ty hby (by decide) (x:=.slo h.length 0 1 1 4 true) (q:=ZT) rfl (xl h) rfl rfl hl
 have hlen:(h++[some (Blk.cells ZT 0)]).length=h.length+1:=by simp
 rw [hlen] at a2 a3 a4
 obtain ⟨hr,⟨c,_⟩|⟨b,cap,e,junk,y,hs,o⟩⟩:=a2
 ·simp at c
 ·have hz:(rows++[ZT])[rows.length]? =some ZT:=by simp
  have el:=o.el hr hz
  obtain ⟨st,o'⟩:=o.stG hr hz hq hp
  have hset:(rows++[ZT]).set rows.length q=rows++[q]:=by rw [lR]
  rw [hset] at st o'
  have hr': ∀r∈rows++[q],r.length=4:=fun x hx=>by
   rcases List.mem_append.1 hx with hx|hx
   ·exact r.1 x hx
   ·obtain rfl:x=q:=by simpa using hx
    exact hq
  refine ⟨v',h1,.pto b (rows.length*4),b,some (Blk.cells ((rows++[q]).flatten++junk) y),a1,a3,fun i hi hl=>?_,fun h' κ=>el.idx _ h' κ,by rw [ga,ah];exact decide_eq_true o.lt,by rw [o.val];rfl,hs,o.lt,st,fun i Y hi κ=>?_,fun h' hb=>⟨hr',.inr ⟨b,cap,e,junk,y,hs,?_⟩⟩⟩
  ·rw [a4 i (fun cc=>hi cc.1) (by omega),ak hl]
  ·have o2:OwB (h1.set i Y) 4 v' (rows++[ZT]) b cap e junk y:=⟨o.val,by rw [ae hi];exact o.blk,o.fit,o.len⟩
   obtain ⟨st2,_⟩:=o2.stG hr hz hq hp
   rw [hset] at st2
   exact st2 κ
  ·exact ⟨o'.val,hb,o'.fit,o'.len⟩
theorem akc {Q:Option Rs→Prop} {κn:Kt} {κx:Ex→Kt} {run:Run} {lp:Lp} {v1 v3 v4 v22:AV} (R:RS m K kd h p c s) (hs:s.stack.length≤100000) (hz: ∀κ:Ka,aO 4 v3 h κ=κ (.agg ZT) h)
 (k: ∀h',Nx h.length m K kd h p c {s with stack:=.nd 0 false [] []::s.stack} h'→Q (κn ⟨cJ (.pto p 0) v1 v3 v4 v22,h'⟩)):
 Q (kc (CL mx) run lp (abp mx) ⟨cJ (.pto p 0) v1 v3 v4 v22,h⟩ κn κx):=by
 obtain ⟨stp,y,sl,st,ct,cl,QQ,hp,o2,o3,ok,o4,o5⟩:=R.ex
 have hp':=hp
 unfold rdL at hp'
 have hpl:=aI hp
 have hQ:QQ.reverse.length≤100000:=by rw [List.length_reverse,ok.len];exact hs
 obtain ⟨v',h1,P,b,X,a1,a2,a3,a4,a5,a6,a7,a8,a9,a10,a11⟩:=o3.push hQ (q:=ZT) rfl rfl (69+1) (by_:=64) (by decide)
 have hpb:p≠b:=fun cc=>by
  rcases a7 with ⟨a7,_⟩|a7
  ·rw [←cc,R.kp] at a7;cases a7
  ·omega
 have hp1:aa h1 p=some (.cells (rdL K c s stp sl st ct cl) y):=by rw [a3 p (by rw [R.kp];decide) hpl];exact hp
 have hp2:aa (h1.set b X) p=some (.cells (rdL K c s stp sl st ct cl) y):=by rw [ae (Ne.symm hpb)];exact hp1
 have hp0:aa (h++[some (.cells ZT 0)]) p=some (.cells (rdL K c s stp sl st ct cl) y):=by rw [ak hpl];exact hp
 unfold rdL at hp1 hp2 hp0
 have len3:=fun (h':AH) (κ:Ka)=>o3.bF h' κ
 have ble1:Nat.ble (ag (h++[some (.cells ZT 0)])) (ag h1)=true:=by rw [bR,ah,ah];simpa using a2
 have ble2: ∀(i:Nat) (x:Option Blk) (y:AH),Nat.ble (ag y) (ag (y.set i x))=true:=fun i x y=>by rw [bR,ah,ah];simp
 have lt1: ∀j,AV.lt (ag (h1.set b X)) (.pto p j)=true:=fun j=>by rw [ga,ah,decide_eq_true_iff,List.length_set];omega
 simp only [sy,List.length_append,Nat.reduceAdd,Nat.reduceMul,Nat.reduceSub,Nat.reduceLeDiff,Nat.reduceEqDiff,Nat.reduceLT,reduceIte,ae9,kc2,hp',hz,len3,abv,a1,ble1,a4,a9,ble2,lt1,hp2,a6,a5,hp1,a10 p _ hpb]
 refine vq _ _ _ _ (List.set_comm _ _ hpb) ?_
 have hlen:h.length+1≤h1.length:=a2
 let kd2:Nat→Nat:=fun i=>if i<h.length then kd i else if i=h.length+1 then 3 else 0
 have k2l: ∀i,i<h.length→kd2 i=kd i:=fun i hi=>if_pos hi
 have k2n:kd2 (h.length+1)=3:=by show (if h.length+1<h.length then _ else if h.length+1=h.length+1 then 3 else 0)=3;rw [if_neg (by omega),if_pos rfl]
 have hb3:b<h.length→kd b=3:=fun c=>by
  rcases a7 with ⟨a7,_⟩|a7
  ·exact a7
  ·omega
 have fr: ∀i,i<h.length→kd i≠3→i≠p→ ∀Y,aa ((h1.set b X).set p Y) i=aa h i:=fun i hi h3 hip Y=>by
  rw [ae (Ne.symm hip),ae (fun cc=>h3 (by rw [←cc];exact hb3 (by omega))),a3 i h3 hi]
 have mm: ∀{j:Nat} {Y:Option Blk},j≠1→j≠3→ ∀b',b'<h.length→kd b'=j→kd2 b'=j∧aa ((h1.set b X).set p Y) b'=aa h b':=fun h1' h3' b' hb' e=>⟨by rw [k2l _ hb'];exact e,fr b' hb' (by rw [e];exact h3') (fun cc=>h1' (by rw [←e,cc];exact R.kp)) _⟩
 have hml:=R.ml
 refine k _ ⟨kd2,R.make (stp':=stp) (y':=y) (sl:=sl) (st:=v') (ct:=ct) (cl:=cl) (Q:=ZT::QQ) (by rw [k2l p hpl];exact R.kp) (fun i hi=>⟨by rw [k2l i (by omega)];exact R.lo i hi,fr i (by omega) (by rw [R.lo i hi];decide) (Ne.symm (R.ig (R.lo i hi))) _⟩) (by rw [List.length_set,List.length_set];omega) (ax (by rw [List.length_set];omega) _)
  (o2.mono (mm (by decide) (by decide))) ?_ ?_ (o4.mono (mm (by decide) (by decide))) (o5.mono (mm (by decide) (by decide))),by rw [List.length_set,List.length_set];omega,fun i hi h0=>⟨fr i hi (by rw [h0];decide) (Ne.symm (R.ig h0)) _,by rw [k2l i hi];exact h0⟩⟩
 ·rw [List.reverse_cons]
  refine (a11 _ (by rw [ae hpb,ax a8])).mono fun b' hb' hs'=>⟨?_,rfl⟩
  rcases hs' with ⟨hs',c⟩|rfl
  ·rw [k2l b' c];exact hs'
  ·exact k2n
 ·refine ⟨?_,ok.mono fun b' hb' h6 _=>⟨k2l b' hb',fr b' hb' (by omega) (fun cc=>by rw [cc,R.kp] at h6;omega) _⟩⟩
  show fw _ _ ZT (.nd 0 false [] [])
  unfold fw
  exact ⟨.nils,.nils,rfl,.inl ⟨rfl,rfl⟩,.inl ⟨rfl,rfl⟩⟩
theorem arZ {q y:Nat} (hq:aa h q=some (.cells ZT y)) (κ:Ka):aO 4 (.pto q 0) h κ=κ (.agg ZT) h:=by
 rw [kV,hq,aS];rfl
theorem xS {Q:Option Rs→Prop} {κn:Kt} {κx:Ex→Kt} {run:Run} {lp:Lp} {v1 v4 v22:AV} (R:RS m K kd h p c s) (hpt:s.parts≤1000000000) (hs:s.stack.length≤100000) {q yq:Nat} (hq:aa h q=some (.cells ZT yq)) (hq0:kd q=0)
 (k: ∀h',Nx h.length m K kd h p c {s with parts:=s.parts+1,stack:=.nd 0 false [] []::s.stack} h'→Q (κn ⟨cJ (.pto p 0) v1 (.pto q 0) v4 v22,h'⟩)):
 Q (kc (CL mx) run lp (acY mx) ⟨cJ (.pto p 0) v1 (.pto q 0) v4 v22,h⟩ κn κx):=by
 obtain ⟨stp,y,sl,st,ct,cl,QQ,hp,o2,o3,ok,o4,o5⟩:=R.ex
 have hp':=hp
 unfold rdL at hp'
 have w:aM 9223372036854775807 ((s.parts:Int)+1)=((s.parts+1:Nat):Int):=by rw [aT (by omega) (by omega)];simp
 simp only [sy,List.length_append,Nat.reduceAdd,Nat.reduceMul,Nat.reduceSub,Nat.reduceLeDiff,Nat.reduceEqDiff,Nat.reduceLT,reduceIte,ag4,hp',n64,w]
 refine akc (R.upd (s':={s with parts:=s.parts+1}) (stp':=stp) (y':=y) o2 o3 ok o4 o5) hs (fun κ=>arZ (y:=yq) (by rw [ae (R.ig hq0)];exact hq) κ) fun h' nx=>?_
 obtain ⟨kd',R',l',f'⟩:=nx
 refine k h' ⟨kd',R',by rw [List.length_set] at l';exact l',fun i hi h0=>?_⟩
 obtain ⟨e1,e2⟩:=f' i (by rw [List.length_set];exact hi) h0
 exact ⟨by rw [e1,ae (R.ig h0)],e2⟩
theorem jv (s:PR) (e a:Nat):(s.bf e a).stack=s.stack∧(s.bf e a).parts=s.parts:=by
 unfold PR.bf
 split<;>exact ⟨rfl,rfl⟩
theorem j4 (R:RS m K kd h p c s) (W:Wf c s) (f:Nat):aC (fun r h'=>r= .tup []∧Nx h.length m K kd h p c (s.open_ c) h') ((rl (CL mx) (f+2)).run 170 [.pto p 0,.agg [.int 18446744073709551615 0,.bool false,.nils,.nils]] h):=by
 refine aC.runs (n:=f+1) (ai2 mx _ _ _ _ _) ?_
 have hz:=aH h (some (Blk.cells ZT (69+1)))
 have R1:=R.grow (h':=h++[some (Blk.cells ZT (69+1))]) (by simp) (fun i hi=>ak hi _)
 have bx: ∀κ:Ka,gN (69+1) (.agg [.int 18446744073709551615 0,.bool false,.nils,.nils]) h κ=κ (.pto h.length 0) (h++[some (Blk.cells ZT (69+1))]):=fun κ=>by rw [dP];rfl
 have fz: ∀i,i<h.length→aa (h++[some (Blk.cells ZT (69+1))]) i=aa h i:=fun i hi=>ak hi _
 have hl1:(h++[some (Blk.cells ZT (69+1))]).length=h.length+1:=by simp
 have k0:cK kd h.length 0 h.length=0:=fJ (Nat.le_refl _)
 have fin: ∀{s':PR} {h2 h':AH},h2.length=h.length+1→(∀i,cK kd h.length 0 i≠1→aa h2 i=aa (h++[some (Blk.cells ZT (69+1))]) i)→Nx h2.length m K (cK kd h.length 0) h2 p c s' h'→Nx h.length m K kd h p c s' h':=fun hl hf nx=>by
  obtain ⟨kd',R',l',f'⟩:=nx
  refine ⟨kd',R',by omega,fun i hi h0=>?_⟩
  have e0:cK kd h.length 0 i=0:=by rw [bQ hi];exact h0
  obtain ⟨e1,e2⟩:=f' i (by omega) e0
  exact ⟨by rw [e1,hf i (by rw [e0];decide),fz i hi],e2⟩
 refine wEq (agy ..) ?_
 refine wEq (bx _) ?_
 obtain ⟨stp,y,sl,st,ct,cl,QQ,hp,o2,o3,ok,o4,o5⟩:=R1.ex
 generalize hH:h++[some (Blk.cells ZT (69+1))]=h1 at*
 have hp':=hp
 unfold rdL at hp'
 have l3:=fun h' κ=>o3.bF h' κ
 rw [List.length_reverse,ok.len] at l3
 have W':=W
 obtain ⟨w1,w2,w3,w4,w5⟩:=W'
 by_cases d:c.depth<s.stack.length
 ·have g:decide ((c.depth:Int)<(s.stack.length:Int))=true:=by rw [decide_eq_true_iff];omega
  simp only [sy,List.length_append,Nat.reduceAdd,Nat.reduceMul,Nat.reduceSub,Nat.reduceLeDiff,Nat.reduceEqDiff,Nat.reduceLT,reduceIte,qN,qV,qE,hp',n64,l3,g]
  refine bG (eI R1 218 s.at_ f).call ?_
  rintro r h2 ⟨rfl,R2,n2,f2⟩
  have ws:=jv s 218 s.at_
  refine xS R2 (by rw [ws.2];exact w3) (by rw [ws.1];exact w5) (q:=h.length) (by rw [f2 _ (by rw [k0];decide)];exact hz) k0 fun h' nx=>?_
  simp only [sy,List.length_append,Nat.reduceAdd,Nat.reduceMul,Nat.reduceSub,Nat.reduceLeDiff,Nat.reduceEqDiff,Nat.reduceLT,reduceIte,tx]
  refine Ends.mk ⟨rfl,fin (by rw [n2,hl1]) f2 ?_⟩
  unfold PR.open_
  rw [if_pos d,←ws.1,←ws.2];exact nx
 ·have g:decide ((c.depth:Int)<(s.stack.length:Int))=false:=by rw [decide_eq_false_iff_not];omega
  by_cases d2:c.tokens≤s.parts
  ·have g2:decide ((c.tokens:Int)≤(s.parts:Int))=true:=by rw [decide_eq_true_iff];omega
   simp only [sy,List.length_append,Nat.reduceAdd,Nat.reduceMul,Nat.reduceSub,Nat.reduceLeDiff,Nat.reduceEqDiff,Nat.reduceLT,reduceIte,qN,qV,qE,wx,we,hp',n64,l3,g,g2]
   refine bG (eI R1 219 s.at_ f).call ?_
   rintro r h2 ⟨rfl,R2,n2,f2⟩
   have ws:=jv s 219 s.at_
   refine xS R2 (by rw [ws.2];exact w3) (by rw [ws.1];exact w5) (q:=h.length) (by rw [f2 _ (by rw [k0];decide)];exact hz) k0 fun h' nx=>?_
   simp only [sy,List.length_append,Nat.reduceAdd,Nat.reduceMul,Nat.reduceSub,Nat.reduceLeDiff,Nat.reduceEqDiff,Nat.reduceLT,reduceIte,tx]
   refine Ends.mk ⟨rfl,fin (by rw [n2,hl1]) f2 ?_⟩
   unfold PR.open_
   rw [if_neg d,if_pos d2,←ws.1,←ws.2];exact nx
  ·have g2:decide ((c.tokens:Int)≤(s.parts:Int))=false:=by rw [decide_eq_false_iff_not];omega
   simp only [sy,List.length_append,Nat.reduceAdd,Nat.reduceMul,Nat.reduceSub,Nat.reduceLeDiff,Nat.reduceEqDiff,Nat.reduceLT,reduceIte,qN,qV,qE,wx,we,hp',n64,l3,g,g2]
   refine xS R1 w3 w5 (q:=h.length) hz k0 fun h' nx=>?_
   simp only [sy,List.length_append,Nat.reduceAdd,Nat.reduceMul,Nat.reduceSub,Nat.reduceLeDiff,Nat.reduceEqDiff,Nat.reduceLT,reduceIte,tx]
   refine Ends.mk ⟨rfl,fin hl1 (fun i _=>rfl) ?_⟩
   unfold PR.open_
   rw [if_neg d,if_neg d2];exact nx
theorem ak1 {S:Nat→Prop} {kv:AV} {ks:List PT} (hk:(ks=[]∧kv= .nils)∨ ∃kb e rows y,kv= .slo kb 0 ks.length ks.length 4 e∧S kb∧aa h kb=some (.cells rows.flatten y)∧cn h (fun b=>S b∧b<kb) rows ks)
 (hl:ks.length≤100000) {q:List AV} (hq:q.length=4) (hp:aV q=true) (ty:Nat) {by_:Nat} (hby:by_≤1000):
 ∃(h1:AH) (P:AV) (rows:List (List AV)) (y:Nat),(∀κ:Ka,ij ty 4 by_ kv (.slo h.length 0 1 1 4 true) (h++[some (.cells ZT 0)]) κ=κ (.slo (h.length+1) 0 (ks.length+1) (ks.length+1) 4 false) h1)∧h1.length=h.length+2∧(∀i,¬S i→i<h.length→aa h1 i=aa h i)∧
  (∀(h':AH) (κ:Ka),bL 4 (.slo (h.length+1) 0 (ks.length+1) (ks.length+1) 4 false) (.int 9223372036854775807 (ks.length:Int)) h' κ=κ P h')∧P.lt (ag h1)=true∧
  (∀κ:Ka,aL 4 P (.agg q) h1 κ=κ (.tup []) (h1.set (h.length+1) (some (.cells (rows++[q]).flatten y))))∧(∀(i:Nat) (Y:Option Blk),i≠h.length+1→ ∀κ:Ka,aL 4 P (.agg q) (h1.set i Y) κ=κ (.tup []) ((h1.set i Y).set (h.length+1) (some (.cells (rows++[q]).flatten y))))∧
  rows.length=ks.length∧cn h1 (fun b=>S b∧b<h.length) rows ks:=by
 have hlen:(h++[some (Blk.cells ZT 0)]).length=h.length+1:=by simp
 have go: ∀(h1:AH) (rows:List (List AV)) (y cap:Nat),(∀r∈rows++[ZT],r.length=4)→rows.length=ks.length→OwB h1 4 (.slo (h.length+1) 0 (ks.length+1) (ks.length+1) 4 false) (rows++[ZT]) (h.length+1) cap false [] y→
  (∀(h':AH) (κ:Ka),bL 4 (.slo (h.length+1) 0 (ks.length+1) (ks.length+1) 4 false) (.int 9223372036854775807 (ks.length:Int)) h' κ=κ (.pto (h.length+1) (ks.length*4)) h')∧(AV.pto (h.length+1) (ks.length*4)).lt (ag h1)=true∧
  (∀κ:Ka,aL 4 (.pto (h.length+1) (ks.length*4)) (.agg q) h1 κ=κ (.tup []) (h1.set (h.length+1) (some (.cells (rows++[q]).flatten y))))∧(∀(i:Nat) (Y:Option Blk),i≠h.length+1→ ∀κ:Ka,aL 4 (.pto (h.length+1) (ks.length*4)) (.agg q) (h1.set i Y) κ=κ (.tup []) ((h1.set i Y).set (h.length+1) (some (.cells (rows++[q]).flatten y)))):=by
  intro h1 rows y cap hr hrl o
  have hz:(rows++[ZT])[ks.length]? =some ZT:=by rw [←hrl];simp
  have el:=o.el hr hz
  have hset:(rows++[ZT]).set ks.length q=rows++[q]:=by rw [←hrl,lR]
  refine ⟨fun h' κ=>el.idx _ h' κ,by rw [ga,ah];exact decide_eq_true o.lt,fun κ=>?_,fun i Y hi κ=>?_⟩
  ·have:=(o.stG hr hz hq hp).1 κ
   rw [hset,List.append_nil] at this;exact this
  ·have o2:OwB (h1.set i Y) 4 (.slo (h.length+1) 0 (ks.length+1) (ks.length+1) 4 false) (rows++[ZT]) (h.length+1) cap false [] y:=⟨o.val,by rw [ae hi];exact o.blk,o.fit,o.len⟩
   have:=(o2.stG hr hz hq hp).1 κ
   rw [hset,List.append_nil] at this;exact this
 rcases hk with ⟨rfl,rfl⟩|⟨kb,e,rows,y,rfl,hs,hb,T⟩
 ·obtain ⟨a1,o⟩:=apA (h:=h++[some (Blk.cells ZT 0)]) (z:=4) ty hby (by decide) (x:=.slo h.length 0 1 1 4 true) (q:=ZT) rfl (xl h) rfl rfl
  rw [hlen] at a1 o
  obtain ⟨g1,g2,g3,g4⟩:=go _ [] ty 1 (by simp [ZT]) rfl o
  exact ⟨_,_,[],ty,a1,by simp,fun i _ hi=>by rw [ak (by omega),ak hi],g1,g2,g3,g4,rfl,by unfold cn;rfl⟩
 ·have hrows:=T.rows
  have ob:OwB (h++[some (Blk.cells ZT 0)]) 4 (.slo kb 0 ks.length ks.length 4 e) rows kb ks.length e [] y:=⟨by rw [hrows.1],by rw [ak (aI hb),hb];simp,by omega,by rw [mP hrows.2,hrows.1];simp⟩
  have hx1:=xl h
  generalize hH:h++[some (Blk.cells ZT 0)]=H at*
  obtain ⟨v',h1,b',cap',e',junk',y',a1,o',hb',hl',hf,hx⟩:=appZ ty hby ob hrows.2 (x:=.slo h.length 0 1 1 4 true) (q:=ZT) rfl hx1 rfl rfl (by rw [hrows.1];exact hl)
  obtain ⟨rfl,rfl,rfl,rfl,n1⟩:=hx hrows.1
  have hHl: ∀i,i<h.length→aa H i=aa h i:=fun i hi=>by rw [←hH];exact ak hi _
  rw [hlen] at o' hl' hf n1
  have hv:v'= .slo (h.length+1) 0 (ks.length+1) (ks.length+1) 4 false:=by rw [o'.val];simp [hrows.1]
  subst hv
  obtain ⟨g1,g2,g3,g4⟩:=go _ rows y' _ (fun r hr=>by
   rcases List.mem_append.1 hr with hr|hr
   ·exact hrows.2 r hr
   ·obtain rfl:r=ZT:=by simpa using hr
    rfl) hrows.1 o'
  have hkl:=aI hb
  have f: ∀i,i≠kb→i<h.length→aa h1 i=aa h i:=fun i hi hl=>by rw [hf i hi (by omega),hHl i hl]
  exact ⟨h1,_,rows,y',a1,n1,fun i hi hl=>f i (fun cc=>hi (by rw [cc];exact hs)) hl,g1,g2,g3,g4,hrows.1,T.mono ks fun b hb' hs'=>⟨⟨hs'.1,hb'⟩,f b (by omega) hb'⟩⟩
theorem te (R:RS m K kd h p c s) {t u:PT} {r:List PT} (hs:s.stack=t::u::r) (hlen:r.length≤90000) (hkids: ∀n b d ks,u= .nd n b d ks→ks.length≤90000∧d=[]) (f:Nat):
 aC (fun x h'=>x= .tup []∧Nx h.length m K kd h p c s.close h') ((rl (CL mx) (f+1)).run 171 [.pto p 0] h):=by
 refine aC.runs (n:=f) (aka mx _ _ _ _) ?_
 obtain ⟨stp,y,sl,st,ct,cl,QQ,hp,o2,o3,ok,o4,o5⟩:=R.ex
 have hpl:=aI hp
 rw [hs] at ok
 obtain ⟨qt,Q1,rfl⟩: ∃q Q,QQ=q::Q:=by
  cases QQ with
  |nil=>exact ok.elim
  |cons q Q=>exact ⟨q,Q,rfl⟩
 obtain ⟨ok1,ok⟩:=ok
 obtain ⟨qu,Qr,rfl⟩: ∃q Q,Q1=q::Q:=by
  cases Q1 with
  |nil=>exact ok.elim
  |cons q Q=>exact ⟨q,Q,rfl⟩
 obtain ⟨ok2,ok3⟩:=ok
 have hQr:=ok3.len
 have hrev:(qt::qu::Qr).reverse=Qr.reverse++[qu,qt]:=by simp
 rw [hrev] at o3
 have hrl:(Qr.reverse++[qu,qt]).length=r.length+2:=by simp [hQr]
 have hgu:(Qr.reverse++[qu,qt])[r.length]? =some qu:=by rw [←hQr];simp
 have hgt:(Qr.reverse++[qu,qt])[r.length+1]? =some qt:=by rw [←hQr];simp
 cases u with
 |nd nu bu du ku=>
  obtain ⟨hku,rfl⟩:=hkids nu bu du ku rfl
  unfold fw at ok2
  obtain ⟨dv,kv,rfl,du2,hk⟩:=ok2
  obtain rfl:dv= .nils:=by
   rcases du2 with ⟨_,e⟩|⟨c,_⟩
   ·exact e
   ·exact absurd rfl c
  have tf:=ok1.four
  obtain ⟨h1,P,rows,yk,a1,a2,a3,a4,a5,a6,a7,a8,a9⟩:=ak1 hk (by omega) tf.1 tf.2 (69+1) (by_:=64) (by decide)
  have lenk: ∀(h':AH) (κ:Ka),bF kv h' κ=κ (.int 9223372036854775807 (ku.length:Int)) h':=fun h' κ=>by
   rcases hk with ⟨rfl,rfl⟩|⟨kb,e,rows,y,rfl,_⟩<;>rfl
  have o3':=o3
  have len3:=fun (h':AH) (κ:Ka)=>o3.bF h' κ
  rw [hrl] at len3
  obtain ⟨hr,⟨cc,_⟩|⟨bs,cap,e,junk,y3,hbs,ob⟩⟩:=o3'
  ·simp at cc
  have hbs':kd bs=3:=hbs
  have elu:=ob.el hr hgu
  have elt:=ob.el hr hgt
  have hbp:p≠bs:=fun cc=>by rw [←cc,R.kp] at hbs';cases hbs'
  have fr1: ∀i,i<h.length→kd i≠6+r.length→aa h1 i=aa h i:=fun i hi h6=>a3 i h6 hi
  have ob1:OwB h1 4 st (Qr.reverse++[[.int 18446744073709551615 (nu:Int),.bool bu,.nils,kv],qt]) bs cap e junk y3:=⟨ob.val,by rw [fr1 bs ob.lt (by omega)];exact ob.blk,ob.fit,ob.len⟩
  have ob2: ∀X,OwB (h1.set (h.length+1) X) 4 st (Qr.reverse++[[.int 18446744073709551615 (nu:Int),.bool bu,.nils,kv],qt]) bs cap e junk y3:=fun X=>⟨ob.val,by rw [ae (by have:=ob.lt;omega)];exact ob1.blk,ob.fit,ob.len⟩
  obtain ⟨Pu,hPu⟩: ∃P,P=AV.pto bs (r.length*4):=⟨_,rfl⟩
  obtain ⟨Pu3,hPu3⟩: ∃P,P=AV.pto bs (r.length*4+3):=⟨_,rfl⟩
  obtain ⟨Pt,hPt⟩: ∃P,P=AV.pto bs ((r.length+1)*4):=⟨_,rfl⟩
  have iu:=elu.idx
  have it:=elt.idx
  have lt_:=elt.ldG
  have lu:=elu.ld1 3 kv rfl
  rw [←hPu] at iu
  rw [←hPt] at it lt_
  rw [←hPu3] at lu
  have mv: ∀(h:AH) (κ:Ka),aj 3 Pu h κ=κ Pu3 h:=fun h κ=>by rw [hPu,hPu3];rfl
  have nk: ∀(h:AH) (κ:Ka),az Pu h κ=κ Pu h:=fun h κ=>by rw [hPu];rfl
  have hv:AV.plain (.slo (h.length+1) 0 (ku.length+1) (ku.length+1) 4 false)=true:=rfl
  have s1:=(ob1.st1 hr hgu (j:=3) (c:=.slo (h.length+1) 0 (ku.length+1) (ku.length+1) 4 false) (by decide) hv).1
  have s2:=fun X=>((ob2 X).st1 hr hgu (j:=3) (c:=.slo (h.length+1) 0 (ku.length+1) (ku.length+1) 4 false) (by decide) hv).1
  have hset:(Qr.reverse++[[.int 18446744073709551615 (nu:Int),.bool bu,.nils,kv],qt]).set r.length (List.set [.int 18446744073709551615 (nu:Int),.bool bu,.nils,kv] 3 (.slo (h.length+1) 0 (ku.length+1) (ku.length+1) 4 false))=Qr.reverse++[[.int 18446744073709551615 (nu:Int),.bool bu,.nils,.slo (h.length+1) 0 (ku.length+1) (ku.length+1) 4 false],qt]:=by
   rw [←hQr,show Qr.length=Qr.reverse.length by simp]
   show (Qr.reverse++[.int 18446744073709551615 (nu:Int),.bool bu,.nils,kv]::[qt]).set _ _=_
   rw [lR];rfl
  have o9:=(ob2 (some (.cells (rows++[qt]).flatten yk))).st1 hr hgu (j:=3) (c:=.slo (h.length+1) 0 (ku.length+1) (ku.length+1) 4 false) (by decide) hv
  rw [hset] at s1 o9
  rw [←hPu3] at s1
  have s2':=fun X=>s2 X
  simp only [hset] at s2'
  rw [←hPu3] at s2'
  have o9:=o9.2
  have hp1:aa h1 p=some (.cells (rdL K c s stp sl st ct cl) y):=by rw [fr1 p hpl (by rw [R.kp];omega)];exact hp
  have hp':=hp
  unfold rdL at hp'
  have bsl:=ob.lt
  generalize hXs:some (Blk.cells ((Qr.reverse++[[.int 18446744073709551615 (nu:Int),.bool bu,.nils,.slo (h.length+1) 0 (ku.length+1) (ku.length+1) 4 false],qt]).flatten++junk) y3)=Xs at*
  generalize hX:some (Blk.cells (rows++[qt]).flatten yk)=X at*
  have ble1:Nat.ble (ag (h++[some (.cells ZT 0)])) (ag h1)=true:=by rw [bR,ah,ah,a2];simp
  have ble2: ∀(i:Nat) (x:Option Blk) (y:AH),Nat.ble (ag y) (ag (y.set i x))=true:=fun i x y=>by rw [bR,ah,ah];simp
  have ltu:AV.lt (ag (h1.set (h.length+1) X)) Pu=true:=by rw [hPu,ga,ah,decide_eq_true_iff,List.length_set];omega
  have ltu3:AV.lt (ag (h1.set (h.length+1) X)) Pu3=true:=by rw [hPu3,ga,ah,decide_eq_true_iff,List.length_set];omega
  have w1:aM 9223372036854775807 (((r.length+2:Nat):Int)-1)=((r.length+1:Nat):Int):=by rw [aT (by omega) (by omega)];simp;omega
  have w2:aM 9223372036854775807 (((r.length+1:Nat):Int)-1)=(r.length:Int):=by rw [aT (by omega) (by omega)];simp
  have o9l:=a7 bs Xs (by omega)
  simp only [sy,List.length_append,Nat.reduceAdd,Nat.reduceMul,Nat.reduceSub,Nat.reduceLeDiff,Nat.reduceEqDiff,Nat.reduceLT,reduceIte,afk,ae4,kc2,hp',len3,w1,w2,iu,nk,mv,lu,it,lt_,lenk,abv,a1,ble1,a4,a6,ble2,ltu,ltu3,s2',a5,s1,o9l]
  refine vq _ _ _ _ (List.set_comm _ _ (by omega)) ?_
  have hml:=R.ml
  let kd2:Nat→Nat:=fun i=>if i<h.length then (if kd i=6+(r.length+1) then 6+r.length else kd i) else if i=h.length+1 then 6+r.length else 0
  have k2l: ∀i,i<h.length→kd i≠6+(r.length+1)→kd2 i=kd i:=fun i hi h6=>by
   show (if i<h.length then (if kd i=6+(r.length+1) then 6+r.length else kd i) else _)=_
   rw [if_pos hi,if_neg h6]
  have k2t: ∀i,i<h.length→kd i=6+(r.length+1)→kd2 i=6+r.length:=fun i hi h6=>by
   show (if i<h.length then (if kd i=6+(r.length+1) then 6+r.length else kd i) else _)=_
   rw [if_pos hi,if_pos h6]
  have k2n:kd2 (h.length+1)=6+r.length:=by
   show (if h.length+1<h.length then _ else if h.length+1=h.length+1 then 6+r.length else 0)=_
   rw [if_neg (by omega),if_pos rfl]
  have hX2:(h1.set (h.length+1) X).set bs Xs=(h1.set (h.length+1) X).set bs Xs:=rfl
  have fr: ∀i,i<h.length→i≠bs→kd i≠6+r.length→aa ((h1.set (h.length+1) X).set bs Xs) i=aa h i:=fun i hi hb h6=>by
   rw [ae (Ne.symm hb),ae (by omega),fr1 i hi h6]
  have hp3:aa ((h1.set (h.length+1) X).set bs Xs) p=some (.cells (rdL K c s stp sl st ct cl) y):=by rw [fr p hpl hbp (by rw [R.kp];omega)];exact hp
  have hp3':=hp3
  unfold rdL at hp3'
  have T9:fw ((h1.set (h.length+1) X).set bs Xs) (fun b=>kd2 b=6+r.length) [.int 18446744073709551615 (nu:Int),.bool bu,.nils,.slo (h.length+1) 0 (ku.length+1) (ku.length+1) 4 false] (.nd nu bu [] (ku++[t])):=by
   have mt: ∀b,b<h.length→kd b=6+(r.length+1)→(kd2 b=6+r.length∧b<h.length+1)∧aa ((h1.set (h.length+1) X).set bs Xs) b=aa h b:=fun b hb hk'=>⟨⟨k2t b hb hk',by omega⟩,fr b hb (fun cc=>by rw [cc,hbs'] at hk';omega) (by omega)⟩
   unfold fw
   refine ⟨.nils,_,rfl,.inl ⟨rfl,rfl⟩,.inr ⟨h.length+1,false,rows++[qt],yk,by simp,k2n,by rw [ae (by omega),ax (by omega),←hX],?_⟩⟩
   refine cn.app (ok1.mono t mt) (a9.mono ku fun b hb hk'=>⟨⟨by rw [k2l b hk'.2 (by rw [hk'.1];omega)];exact hk'.1,by omega⟩,?_⟩)
   rw [ae (fun cc=>by rw [cc,hk'.1] at hbs';omega),ae (by omega)]
  have h9l:((h1.set (h.length+1) X).set bs Xs).length=h.length+2:=by rw [List.length_set,List.length_set,a2]
  have o9R:OwR ((h1.set (h.length+1) X).set bs Xs) (fun b=>kd2 b=3) 4 st ((qt::[.int 18446744073709551615 (nu:Int),.bool bu,.nils,.slo (h.length+1) 0 (ku.length+1) (ku.length+1) 4 false]::Qr).reverse):=by
   rw [show (qt::[.int 18446744073709551615 (nu:Int),.bool bu,.nils,.slo (h.length+1) 0 (ku.length+1) (ku.length+1) 4 false]::Qr).reverse=Qr.reverse++[[.int 18446744073709551615 (nu:Int),.bool bu,.nils,.slo (h.length+1) 0 (ku.length+1) (ku.length+1) 4 false],qt] by simp]
   refine ⟨fun x hx=>?_,.inr ⟨bs,cap,e,junk,y3,by show kd2 bs=3;rw [k2l bs bsl (by omega)];exact hbs',o9⟩⟩
   rcases List.mem_append.1 hx with hx|hx
   ·exact hr x (List.mem_append_left _ hx)
   ·rcases List.mem_cons.1 hx with rfl|hx
    ·rfl
    ·exact hr x (List.mem_append_right _ (List.mem_cons_of_mem _ hx))
  generalize h1.set (h.length+1) X=h2 at*
  generalize h2.set bs Xs=h3 at*
  obtain ⟨v',c1,c2⟩:=o9R.cut (by decide) (by simp) (m:=r.length+1) (by simp [hQr]) 9223372036854775807
  have htk:((qt::[.int 18446744073709551615 (nu:Int),.bool bu,.nils,.slo (h.length+1) 0 (ku.length+1) (ku.length+1) 4 false]::Qr).reverse).take (r.length+1)=([.int 18446744073709551615 (nu:Int),.bool bu,.nils,.slo (h.length+1) 0 (ku.length+1) (ku.length+1) 4 false]::Qr).reverse:=by
   rw [List.reverse_cons,List.take_append_of_le_length (by simp [hQr]),List.take_of_length_le (by simp [hQr])]
  rw [htk] at c2
  have hp3l:=aI hp3
  simp only [sy,List.length_append,Nat.reduceAdd,Nat.reduceMul,Nat.reduceSub,Nat.reduceLeDiff,Nat.reduceEqDiff,Nat.reduceLT,reduceIte,ae8,hp3',c1,c2.plain,ak2]
  refine Ends.mk ⟨rfl,?_⟩
  have mm: ∀{j:Nat} {Y:Option Blk},j≠1→j≠3→j<6→ ∀b',b'<h.length→kd b'=j→kd2 b'=j∧aa (h3.set p Y) b'=aa h b':=fun h1' h3' h6' b' hb' e=>⟨by rw [k2l _ hb' (by omega)];exact e,by rw [ae (fun cc=>h1' (by rw [←e,←cc];exact R.kp)),fr b' hb' (fun cc=>h3' (by rw [←e,cc];exact hbs')) (by omega)]⟩
  have f0: ∀i,i<h.length→kd i=0→ ∀Y,aa (h3.set p Y) i=aa h i:=fun i hi h0 Y=>by rw [ae (R.ig h0),fr i hi (fun cc=>by rw [cc,hbs'] at h0;cases h0) (by omega)]
  refine ⟨kd2,R.make (stp':=stp) (y':=y) (sl:=sl) (st:=v') (ct:=ct) (cl:=cl) (Q:=[.int 18446744073709551615 (nu:Int),.bool bu,.nils,.slo (h.length+1) 0 (ku.length+1) (ku.length+1) 4 false]::Qr) (by rw [k2l p hpl (by rw [R.kp];omega)];exact R.kp) (fun i hi=>⟨by rw [k2l i (by omega) (by rw [R.lo i hi];omega)];exact R.lo i hi,f0 i (by omega) (R.lo i hi) _⟩) (by rw [List.length_set,h9l];omega) (by
   rw [ax hp3l]
   unfold PR.close
   rw [hs];rfl) ?_ ?_ ?_ ?_ ?_,by rw [List.length_set,h9l];omega,fun i hi h0=>⟨f0 i hi h0 _,by rw [k2l i hi (by omega)];exact h0⟩⟩
  ·unfold PR.close
   rw [hs];exact o2.mono (mm (by decide) (by decide) (by decide))
  ·exact c2.mono fun b' hb' hk'=>⟨hk',ae (fun cc=>by rw [←cc,k2l p hpl (by rw [R.kp];omega),R.kp] at hk';cases hk') _⟩
  ·unfold PR.close
   rw [hs]
   refine ⟨T9.mono _ fun b' hb' hk'=>⟨hk',ae (fun cc=>by rw [←cc,k2l p hpl (by rw [R.kp];omega),R.kp] at hk';omega) _⟩,ok3.mono fun b' hb' g1 g2=>⟨k2l b' hb' (by omega),?_⟩⟩
   rw [ae (fun cc=>by rw [←cc,R.kp] at g1;omega),fr b' hb' (fun cc=>by rw [cc,hbs'] at g1;omega) (by omega)]
  ·unfold PR.close
   rw [hs];exact o4.mono (mm (by decide) (by decide) (by decide))
  ·unfold PR.close
   rw [hs];exact o5.mono (mm (by decide) (by decide) (by decide))
theorem qU (R:RS m K kd h p c s) {t0 u:PT} {r:List PT} (hs:s.stack=t0::u::r) (hlen:r.length≤90000) (hkids: ∀n b d ks,u= .nd n b d ks→ks.length≤90000∧d=[]) {nn:Nat} {dv:AV} {dd:List Nat} {b0 n0:Nat}
 (hd:ju h (fun b=>b=b0) dv dd) (hb0:cK kd h.length 0 b0=0) (hmn:m≤n0) (hn0:n0≤b0) (hn1:n0≤h.length) (f:Nat):
 aC (fun x h'=>x= .tup []∧Nx n0 m K kd h p c (s.leaf (.nd nn false dd [])) h') ((rl (CL mx) (f+2)).run 175 [.pto p 0,.agg [.int 18446744073709551615 (nn:Int),.bool false,dv,.nils]] h):=by
 refine aC.runs (n:=f+1) (amS mx _ _ _ _ _) ?_
 have hdp:=hd.at.plain
 generalize hq:[AV.int 18446744073709551615 (nn:Int),.bool false,dv,.nils]=q
 have hql:q.length=4:=by rw [←hq];rfl
 have hqp:aV q=true:=by rw [←hq];show and true (and true (and dv.plain true))=true;rw [hdp];rfl
 have hz:=aH h (some (Blk.cells q (69+1)))
 have R1:=R.grow (h':=h++[some (Blk.cells q (69+1))]) (by simp) (fun i hi=>ak hi _)
 have bx: ∀κ:Ka,gN (69+1) (.agg q) h κ=κ (.pto h.length 0) (h++[some (Blk.cells q (69+1))]):=fun κ=>by rw [dP];rfl
 have fz: ∀i,i<h.length→aa (h++[some (Blk.cells q (69+1))]) i=aa h i:=fun i hi=>ak hi _
 have hl1:(h++[some (Blk.cells q (69+1))]).length=h.length+1:=by simp
 have hd1:ju (h++[some (Blk.cells q (69+1))]) (fun b=>b=b0) dv dd:=hd.mono fun b hb e=>⟨e,fz b hb⟩
 refine wEq (afY ..) ?_
 refine wEq (bx _) ?_
 generalize hH:h++[some (Blk.cells q (69+1))]=h1 at*
 obtain ⟨stp,y,sl,st,ct,cl,QQ,hp,o2,o3,ok,o4,o5⟩:=R1.ex
 have hp':=hp
 unfold rdL at hp'
 rw [hs] at ok
 obtain ⟨qt,Q1,rfl⟩: ∃q Q,QQ=q::Q:=by
  cases QQ with
  |nil=>exact ok.elim
  |cons q Q=>exact ⟨q,Q,rfl⟩
 obtain ⟨ok1,ok2⟩:=ok
 have hQ1:=ok2.len
 have hrev:(qt::Q1).reverse=Q1.reverse++[qt]:=by simp
 rw [hrev] at o3
 have hrl:(Q1.reverse++[qt]).length=r.length+2:=by simp [hQ1]
 have hgt:(Q1.reverse++[qt])[r.length+1]? =some qt:=by
  have:r.length+1=Q1.reverse.length:=by rw [List.length_reverse,hQ1];rfl
  rw [this];simp
 have len3:=fun (h':AH) (κ:Ka)=>o3.bF h' κ
 rw [hrl] at len3
 obtain ⟨hr,⟨cc,_⟩|⟨bs,cap,e,junk,y3,hbs,ob⟩⟩:=o3
 ·simp at cc
 have hbs':cK kd h.length 0 bs=3:=hbs
 have elt:=ob.el hr hgt
 obtain ⟨Pt,hPt⟩: ∃P,P=AV.pto bs ((r.length+1)*4):=⟨_,rfl⟩
 have it:=elt.idx
 rw [←hPt] at it
 obtain ⟨s1,o9⟩:=ob.stG hr hgt hql hqp
 rw [←hPt] at s1
 have hset:(Q1.reverse++[qt]).set (r.length+1) q=Q1.reverse++[q]:=by
  have:r.length+1=Q1.reverse.length:=by rw [List.length_reverse,hQ1];rfl
  rw [this,lR]
 rw [hset] at s1 o9
 have bsl:=ob.lt
 have w1:aM 9223372036854775807 (((r.length+2:Nat):Int)-1)=((r.length+1:Nat):Int):=by rw [aT (by omega) (by omega)];simp;omega
 have ldz: ∀κ:Ka,aO 4 (.pto h.length 0) h1 κ=κ (.agg q) h1:=fun κ=>by
  rw [kV,hz,aS]
  show bq (decide (0+4≤q.length)) (κ (.agg ((q.drop 0).take 4)) h1) none=_
  rw [bz (by omega),List.drop_zero,←hql,List.take_length]
 obtain ⟨pz,hpz⟩: ∃P,P=AV.pto h.length 0:=⟨_,rfl⟩
 rw [←hpz] at ldz ⊢
 have ble2: ∀(i:Nat) (x:Option Blk) (y:AH),Nat.ble (ag y) (ag (y.set i x))=true:=fun i x y=>by rw [bR,ah,ah];simp
 simp only [sy,List.length_append,Nat.reduceAdd,Nat.reduceMul,Nat.reduceSub,Nat.reduceLeDiff,Nat.reduceEqDiff,Nat.reduceLT,reduceIte,ahu,agl,hp',len3,w1,ldz,it,s1,ble2]
 let kd2:Nat→Nat:=fun i=>if i=b0 then 6+(r.length+1) else cK kd h.length 0 i
 have k2l: ∀i,cK kd h.length 0 i≠0→kd2 i=cK kd h.length 0 i:=fun i hi=>if_neg (fun cc=>hi (by rw [cc];exact hb0))
 have k2b:kd2 b0=6+(r.length+1):=if_pos rfl
 have k2o: ∀i,i≠b0→kd2 i=cK kd h.length 0 i:=fun i hi=>if_neg hi
 have hpl:=aI hp
 have hbp:bs≠p:=fun cc=>by rw [cc,R1.kp] at hbs';cases hbs'
 have hml:=R.ml
 have fr: ∀i,i≠bs→ ∀X,aa (h1.set bs X) i=aa h1 i:=fun i hi X=>ae (Ne.symm hi) _
 have mm: ∀{j:Nat} {X:Option Blk},j≠0→j≠3→ ∀b',b'<h1.length→cK kd h.length 0 b'=j→kd2 b'=j∧aa (h1.set bs X) b'=aa h1 b':=fun h1' h3' b' hb' e=>⟨by rw [k2l _ (by rw [e];exact h1')];exact e,fr b' (fun cc=>h3' (by rw [←e,cc];exact hbs')) _⟩
 have hbb:b0≠bs:=fun cc=>by rw [cc,hbs'] at hb0;cases hb0
 have R2:RS m K kd2 (h1.set bs (some (.cells ((Q1.reverse++[q]).flatten++junk) y3))) p c {s with stack:=.nd nn false dd []::u::r}:=by
  refine R1.make (stp':=stp) (y':=y) (sl:=sl) (st:=st) (ct:=ct) (cl:=cl) (Q:=q::Q1) (by rw [k2l p (by rw [R1.kp];decide)];exact R1.kp) (fun i hi=>?_) (by rw [List.length_set];exact Nat.le_refl _) (by rw [fr p (Ne.symm hbp)];exact hp) (o2.mono (mm (by decide) (by decide))) ?_ ?_ (o4.mono (mm (by decide) (by decide))) (o5.mono (mm (by decide) (by decide)))
  ·have e0:=R1.lo i hi
   exact ⟨by rw [k2o i (by omega)];exact e0,fr i (fun cc=>by rw [cc,hbs'] at e0;cases e0) _⟩
  ·rw [List.reverse_cons]
   refine ⟨fun x hx=>?_,.inr ⟨bs,cap,e,junk,y3,by show kd2 bs=3;rw [k2l bs (by rw [hbs'];decide)];exact hbs',o9⟩⟩
   rcases List.mem_append.1 hx with hx|hx
   ·exact hr x (List.mem_append_left _ hx)
   ·obtain rfl:x=q:=by simpa using hx
    exact hql
  ·refine ⟨?_,ok2.mono fun b' hb' g1 g2=>⟨k2l b' (by omega),fr b' (fun cc=>by rw [cc,hbs'] at g1;omega) _⟩⟩
   unfold fw
   exact ⟨dv,.nils,hq.symm,hd1.mono fun b hb e=>by subst e;exact ⟨k2b,fr b hbb _⟩,.inl ⟨rfl,rfl⟩⟩
 refine bG (te R2 (t:=.nd nn false dd []) (u:=u) (r:=r) rfl hlen hkids f).call ?_
 rintro x h' ⟨rfl,kd',R',l',f'⟩
 rw [List.length_set] at l' f'
 simp only [sy,List.length_append,Nat.reduceAdd,Nat.reduceMul,Nat.reduceSub,Nat.reduceLeDiff,Nat.reduceEqDiff,Nat.reduceLT,reduceIte,alM]
 refine Ends.mk ⟨rfl,kd',?_,by omega,fun i hi h0=>?_⟩
 ·unfold PR.leaf
  rw [hs]
  unfold PR.close at R'
  exact R'
 ·have e0:cK kd h.length 0 i=0:=by rw [bQ (by omega)];exact h0
  obtain ⟨e1,e2⟩:=f' i (by omega) (by rw [k2o i (by omega)];exact e0)
  exact ⟨by rw [e1,fr i (fun cc=>by rw [cc,hbs'] at e0;cases e0),fz i (by omega)],e2⟩
end
end Go.Proofs.YteapfopaiocpeaaGreatDoor
