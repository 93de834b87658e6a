/- A reader of package scan: numbers. The functions' code is printed by a program. -/
import Derived.Test.YteapfopaiocpeaaGreatDoorSb
namespace Go.Proofs.YteapfopaiocpeaaGreatDoor
set_option linter.unusedSimpArgs false
set_option linter.unusedVariables false
set_option linter.unnecessarySimpa false
set_option linter.defProp false
noncomputable section
def ig (v0 v1 v4 v5 v6 v11 v23 v46 v62:AV):Tm:=(.nd 6 (.nd 4 (.nd 1 (.lf 0 v0) (.lf 1 v1)) (.nd 5 (.lf 4 v4) (.lf 5 v5))) (.nd 23 (.nd 11 (.lf 6 v6) (.lf 11 v11)) (.nd 46 (.lf 23 v23) (.nd 62 (.lf 46 v46) (.lf 62 v62)))))
def ada (mx:Int):K:=kAt [] (kOf (CL mx) 52)
def ajj (mx:Int):K:=kAt [1,1,1,1,0] (kOf (CL mx) 52)
def ahS (mx:Int):K:=kAt [1,1,1,1,1] (kOf (CL mx) 52)
section
set_option maxRecDepth 100000
variable (mx:Int) (run:Run) (lp:Lp) (κn:Kt) (κx:Ex→Kt) (h:AH) (v0 v1 v4 v5 v6 v11 v23 v46 v62:AV)
theorem ahm:kc (CL mx) run lp (ada mx) ⟨ig v0 v1 v4 v5 v6 v11 v23 v46 v62,h⟩ κn κx=aC v0 h (fun a0 h=>ao 2 a0 h (fun a1 h=>ar a1 h (fun a2 h=>cmp cj a2 (.int 9223372036854775807 10) h (fun a3 h=>bG a3 (κx .ret ⟨ig v0 v1 (.bool false) (.int 9223372036854775807 20) v6 a3 v23 v46 v62,h⟩) (mh 255 255 Nat.land v1 (.int 255 127) h (fun a4 h=>cvI 18446744073709551615 a4 h (fun a5 h=>aC v0 h (fun a6 h=>ao 2 a6 h (fun a7 h=>ar a7 h (fun a8 h=>cmp cj a8 (.int 9223372036854775807 9) h (fun a9 h=>av a9 true (fun κ=>aY v1 h κ) h (fun a10 h=>av a9 true (fun κ=>cmp igt a10 (.int 255 1) h κ) h (fun a11 h=>fm a9 a11 (.bool false) h (fun a12 h=>bG a12 (κx .ret ⟨ig v0 v1 (.bool false) (.int 9223372036854775807 20) a5 a3 a12 v46 v62,h⟩) (kc (CL mx) run lp (ajj mx) ⟨ig v0 v1 (.bool false) (.int 9223372036854775807 0) a5 a3 a12 v46 v62,h⟩ (fun s=>kc (CL mx) run lp (ahS mx) s κn κx) κx))))))))))))))):=by kernel_rfl
theorem afK:kc (CL mx) run lp (ajj mx) ⟨ig v0 v1 v4 v5 v6 v11 v23 v46 v62,h⟩ κn κx=aC v0 h (fun a0 h=>ao 1 a0 h (fun a1 h=>ar a1 h (fun a2 h=>aC v0 h (fun a3 h=>ao 2 a3 h (fun a4 h=>ar a4 h (fun a5 h=>arith sO (.int 9223372036854775807 7) a5 h (fun a6 h=>aa0 18446744073709551615 64 v6 a6 h (fun a7 h=>mh 18446744073709551615 18446744073709551615 Nat.lor a2 a7 h (fun a8 h=>aC v0 h (fun a9 h=>ao 1 a9 h (fun a10 h=>cB a10 a8 h (fun a11 h1=>bq (Nat.ble (aj h) (aj h1)) ((fun h=>κn ⟨ig v0 v1 v4 v5 v6 v11 v23 v46 v62,h⟩) h1) none)))))))))))):=(cE (C:=CL mx) (ops:=opsOf (cAt [1,1,1,1,0] (aH (CL mx) 52))) (ps:=[0,1,4,5,6,11,23,46,62]) (by kernel_rfl) (by kernel_rfl) _ _ _).trans (by kernel_rfl)
theorem ahA:kc (CL mx) run lp (ahS mx) ⟨ig v0 v1 v4 v5 v6 v11 v23 v46 v62,h⟩ κn κx=aC v0 h (fun a0 h=>ao 2 a0 h (fun a1 h=>ar a1 h (fun a2 h=>arith fu a2 (.int 9223372036854775807 1) h (fun a3 h=>aC v0 h (fun a4 h=>ao 2 a4 h (fun a5 h=>cB a5 a3 h (fun a6 h=>cmp ige v1 (.int 255 128) h (fun a7 h=>bG a7 (κx .ret ⟨ig v0 v1 (.bool false) (.int 9223372036854775807 0) v6 v11 v23 a7 v62,h⟩) (aC v0 h (fun a8 h=>ao 0 a8 h (fun a9 h=>ar a9 h (fun a10 h=>ot a10 h (fun a11 h=>av a11 true (fun κ=>aY v1 h κ) h (fun a12 h=>av a11 true (fun κ=>cmp cj a12 (.int 255 0) h κ) h (fun a13 h=>fm a11 a13 (.bool false) h (fun a14 h=>av a14 true (fun κ=>aY v0 h κ) h (fun a15 h=>av a14 true (fun κ=>aC a15 h κ) h (fun a16 h=>av a14 true (fun κ=>ao 2 a16 h κ) h (fun a17 h=>av a14 true (fun κ=>ar a17 h κ) h (fun a18 h=>av a14 true (fun κ=>cmp igt a18 (.int 9223372036854775807 1) h κ) h (fun a19 h=>fm a14 a19 (.bool false) h (fun a20 h=>bG a20 (κx .ret ⟨ig v0 v1 (.bool false) (.int 9223372036854775807 21) v6 v11 v23 a7 a20,h⟩) (κx .ret ⟨ig v0 v1 (.bool true) (.int 9223372036854775807 0) v6 v11 v23 a7 a20,h⟩))))))))))))))))))))))):=by kernel_rfl
theorem aiD:kcE (CL mx) [.tmp 4,.tmp 5] ⟨ig v0 v1 v4 v5 v6 v11 v23 v46 v62,h⟩=some (.vh (.tup [v4,v5]) h):=(bJ _ _ _).trans (by kernel_rfl)
theorem ao9:dp (CL mx) 52=some ⟨ada mx,[0,1,4,5,6,11,23,46,62],63,[.tmp 4,.tmp 5]⟩:=by kernel_rfl
end
theorem als (mx:Int) (run:Run) (lp:Lp) (x0 x1:AV) (h:AH):cW (CL mx) run lp 52 [x0,x1] h=vhO (kc (CL mx) run lp (ada mx) ⟨ig x0 x1 .bot .bot .bot .bot .bot .bot .bot,h⟩ (kcE (CL mx) [.tmp 4,.tmp 5]) (kcQ (CL mx) [.tmp 4,.tmp 5])):=(bK (by kernel_rfl) (ao9 mx) (by kernel_rfl)).trans (by kernel_rfl)
def xR:=And.intro @ahm (And.intro @afK (And.intro @ahA (@aiD)))
def y9 (v0 v2:AV):Tm:=(.nd 2 (.lf 0 v0) (.lf 2 v2))
def abu (mx:Int):K:=kAt [] (kOf (CL mx) 53)
section
set_option maxRecDepth 100000
variable (mx:Int) (run:Run) (lp:Lp) (κn:Kt) (κx:Ex→Kt) (h:AH) (v0 v2:AV)
theorem af6:kc (CL mx) run lp (abu mx) ⟨y9 v0 v2,h⟩ κn κx=aC v0 h (fun a0 h=>ao 1 a0 h (fun a1 h=>ar a1 h (fun a2 h=>κx .ret ⟨y9 v0 a2,h⟩))):=by kernel_rfl
theorem alT:kcE (CL mx) [.tmp 2] ⟨y9 v0 v2,h⟩=some (.vh v2 h):=(bJ _ _ _).trans (by kernel_rfl)
theorem apm:dp (CL mx) 53=some ⟨abu mx,[0,2],7,[.tmp 2]⟩:=by kernel_rfl
end
theorem alP (mx:Int) (run:Run) (lp:Lp) (x0:AV) (h:AH):cW (CL mx) run lp 53 [x0] h=vhO (kc (CL mx) run lp (abu mx) ⟨y9 x0 .bot,h⟩ (kcE (CL mx) [.tmp 2]) (kcQ (CL mx) [.tmp 2])):=(bK (by kernel_rfl) (apm mx) (by kernel_rfl)).trans (by kernel_rfl)
def aqz:=And.intro @af6 (@alT)
def dt (v0 v1 v4 v5 v6 v7 v8 v12 v21 v28 v36:AV):Tm:=(.nd 7 (.nd 4 (.nd 1 (.lf 0 v0) (.lf 1 v1)) (.nd 5 (.lf 4 v4) (.nd 6 (.lf 5 v5) (.lf 6 v6)))) (.nd 21 (.nd 8 (.lf 7 v7) (.nd 12 (.lf 8 v8) (.lf 12 v12))) (.nd 28 (.lf 21 v21) (.nd 36 (.lf 28 v28) (.lf 36 v36)))))
def abJ (mx:Int):K:=kAt [] (kOf (CL mx) 221)
def akC (mx:Int):K:=kAt [1,1,0] (kOf (CL mx) 221)
def ajI (mx:Int):K:=kAt [1,1,1] (kOf (CL mx) 221)
def ace (mx:Int):K:=kAt [1,1,0,0,0] (kOf (CL mx) 221)
def ajf (mx:Int):K:=kAt [1,1,0,0,0,1,0,1,1,1,0] (kOf (CL mx) 221)
def aii (mx:Int):K:=kAt [1,1,0,0,0,1,0,1,1,1,1] (kOf (CL mx) 221)
section
set_option maxRecDepth 100000
variable (mx:Int) (run:Run) (lp:Lp) (κn:Kt) (κx:Ex→Kt) (h:AH) (v0 v1 v4 v5 v6 v7 v8 v12 v21 v28 v36:AV)
theorem afA:kc (CL mx) run lp (abJ mx) ⟨dt v0 v1 v4 v5 v6 v7 v8 v12 v21 v28 v36,h⟩ κn κx=gU (placeOf (CL mx) [(0,4),(1,40),(2,3)]) [.bool false,.int 18446744073709551615 0,.int 9223372036854775807 0] [(0,v1)] h (fun a0 h=>dY h (.cells [.bool false,.int 18446744073709551615 0,.int 9223372036854775807 0] 150) (fun a1 h=>aK 3 a1 a0 h (fun a2 h=>kc (CL mx) run lp (akC mx) ⟨dt v0 v1 (.int 18446744073709551615 0) a1 v6 v7 v8 v12 v21 v28 v36,h⟩ (fun s=>kc (CL mx) run lp (ajI mx) s κn κx) κx))):=by kernel_rfl
theorem ag4:kc (CL mx) run lp (akC mx) ⟨dt v0 v1 v4 v5 v6 v7 v8 v12 v21 v28 v36,h⟩ κn κx=kcR κn (kcO 0 κn κx) (lp (ace mx) ⟨dt v0 v1 v4 v5 v6 v7 v8 v12 v21 v28 v36,h⟩):=by kernel_rfl
theorem ahK:kc (CL mx) run lp (ajI mx) ⟨dt v0 v1 v4 v5 v6 v7 v8 v12 v21 v28 v36,h⟩ κn κx=κx .ret ⟨dt v0 v1 (.int 18446744073709551615 0) v5 v6 v7 v8 v12 v21 v28 v36,h⟩:=by kernel_rfl
theorem rT:kc (CL mx) run lp (ace mx) ⟨dt v0 v1 v4 v5 v6 v7 v8 v12 v21 v28 v36,h⟩ κn κx=aL (fun a0 h=>bG a0 (aC v0 h (fun a1 h=>ao 11 a1 h (fun a2 h=>ar a2 h (fun a3 h=>aL (fun a4 h=>aL (fun a5 h=>ot a5 h (fun a6 h=>bG a6 (κx (.exit 0) ⟨dt v0 v1 v4 v5 a4 v7 v8 a0 a6 v28 v36,h⟩) (aL (fun a7 h=>eO 0 a7 h (fun a8 h=>eO 1 a7 h (fun a9 h=>kc (CL mx) run lp (ajf mx) ⟨dt v0 v1 v4 v5 a4 a8 a9 a0 a6 v28 v36,h⟩ (fun s=>kc (CL mx) run lp (aii mx) s κn (kcO 1 κn κx)) (kcO 1 κn κx)))) (aD (CL mx) run 52 [v5,a4] h)))) (aD (CL mx) run 112 [v0] h)) (aD (CL mx) run 224 [v0,a3] h))))) (κx (.exit 0) ⟨dt v0 v1 v4 v5 v6 v7 v8 a0 v21 v28 v36,h⟩)) (aD (CL mx) run 112 [v0] h):=by kernel_rfl
theorem qU:kc (CL mx) run lp (ajf mx) ⟨dt v0 v1 v4 v5 v6 v7 v8 v12 v21 v28 v36,h⟩ κn κx=cmp ine v8 (.int 9223372036854775807 0) h (fun a0 h=>bG a0 (aC v0 h (fun a1 h=>ao 11 a1 h (fun a2 h=>ar a2 h (fun a3 h=>aL (fun a4 h=>κn ⟨dt v0 v1 v4 v5 v6 v7 v8 v12 v21 a0 v36,h⟩) (aD (CL mx) run 114 [v0,v8,a3] h))))) (κn ⟨dt v0 v1 v4 v5 v6 v7 v8 v12 v21 a0 v36,h⟩)):=by kernel_rfl
theorem rN:kc (CL mx) run lp (aii mx) ⟨dt v0 v1 v4 v5 v6 v7 v8 v12 v21 v28 v36,h⟩ κn κx=bG v7 (aL (fun a0 h=>κx .ret ⟨dt v0 v1 a0 v5 v6 v7 v8 v12 v21 v28 v7,h⟩) (aD (CL mx) run 53 [v5] h)) (κn ⟨dt v0 v1 v4 v5 v6 v7 v8 v12 v21 v28 v7,h⟩):=by kernel_rfl
theorem aap:kcE (CL mx) [.tmp 4] ⟨dt v0 v1 v4 v5 v6 v7 v8 v12 v21 v28 v36,h⟩=some (.vh v4 h):=(bJ _ _ _).trans (by kernel_rfl)
theorem ao2:dp (CL mx) 221=some ⟨abJ mx,[0,1,4,5,6,7,8,12,21,28,36],38,[.tmp 4]⟩:=by kernel_rfl
end
theorem aip (mx:Int) (run:Run) (lp:Lp) (x0 x1:AV) (h:AH):cW (CL mx) run lp 221 [x0,x1] h=vhO (kc (CL mx) run lp (abJ mx) ⟨dt x0 x1 .bot .bot .bot .bot .bot .bot .bot .bot .bot,h⟩ (kcE (CL mx) [.tmp 4]) (kcQ (CL mx) [.tmp 4])):=(bK (by kernel_rfl) (ao2 mx) (by kernel_rfl)).trans (by kernel_rfl)
theorem aav (mx:Int) (p:List Nat):eF (CL mx) (kAt p (kOf (CL mx) 221)):=jF p (jT (CL mx) 221)
def eV (v0 v1 v4 v5 v6 v7 v14 v15 v16 v22:AV):Tm:=(.nd 7 (.nd 4 (.nd 1 (.lf 0 v0) (.lf 1 v1)) (.nd 5 (.lf 4 v4) (.nd 6 (.lf 5 v5) (.lf 6 v6)))) (.nd 15 (.nd 14 (.lf 7 v7) (.lf 14 v14)) (.nd 16 (.lf 15 v15) (.nd 22 (.lf 16 v16) (.lf 22 v22)))))
def akk (mx:Int):K:=kAt [] (kOf (CL mx) 220)
def apD (mx:Int):K:=kAt [1,1,1,0] (kOf (CL mx) 220)
def apx (mx:Int):K:=kAt [1,1,1,1] (kOf (CL mx) 220)
def ai5 (mx:Int):K:=kAt [1,1,1,0,1,0,0] (kOf (CL mx) 220)
def apW (mx:Int):K:=kAt [1,1,1,0,1,0,0,1,1,0] (kOf (CL mx) 220)
def apQ (mx:Int):K:=kAt [1,1,1,0,1,0,0,1,1,1] (kOf (CL mx) 220)
def apE (mx:Int):K:=kAt [1,1,1,0,1,0,0,1,1,0,0,1,1,0] (kOf (CL mx) 220)
def apz (mx:Int):K:=kAt [1,1,1,0,1,0,0,1,1,0,0,1,1,1] (kOf (CL mx) 220)
section
set_option maxRecDepth 100000
variable (mx:Int) (run:Run) (lp:Lp) (κn:Kt) (κx:Ex→Kt) (h:AH) (v0 v1 v4 v5 v6 v7 v14 v15 v16 v22:AV)
theorem akX:kc (CL mx) run lp (akk mx) ⟨eV v0 v1 v4 v5 v6 v7 v14 v15 v16 v22,h⟩ κn κx=bH v0 h (fun a0 h=>jk false a0 (.int 9223372036854775807 8) h (fun a1 h=>slS 1 v0 none (some a1) none h (fun a2 h=>kc (CL mx) run lp (apD mx) ⟨eV a2 v1 (.int 18446744073709551615 0) (.int 18446744073709551615 0) v6 v7 v14 v15 v16 v22,h⟩ (fun s=>kc (CL mx) run lp (apx mx) s κn κx) κx))):=by kernel_rfl
theorem ah8:kc (CL mx) run lp (apD mx) ⟨eV v0 v1 v4 v5 v6 v7 v14 v15 v16 v22,h⟩ κn κx=bH v0 h (fun a0 h=>kcR κn (kcO 0 κn κx) (lp (ai5 mx) ⟨eV v0 v1 v4 v5 v6 v7 a0 (.int 9223372036854775807 0) v16 v22,h⟩)):=by kernel_rfl
theorem aiB:kc (CL mx) run lp (apx mx) ⟨eV v0 v1 v4 v5 v6 v7 v14 v15 v16 v22,h⟩ κn κx=κx .ret ⟨eV v0 v1 v5 v5 v6 v7 v14 v15 v16 v22,h⟩:=by kernel_rfl
theorem uy:kc (CL mx) run lp (ai5 mx) ⟨eV v0 v1 v4 v5 v6 v7 v14 v15 v16 v22,h⟩ κn κx=cmp ilt v15 v14 h (fun a0 h=>bG a0 (kc (CL mx) run lp (apW mx) ⟨eV v0 v1 v4 v5 v6 v7 v14 v15 a0 v22,h⟩ (fun s=>kc (CL mx) run lp (apQ mx) s κn κx) κx) (κx (.exit 0) ⟨eV v0 v1 v4 v5 v6 v7 v14 v15 a0 v22,h⟩)):=by kernel_rfl
theorem zy:kc (CL mx) run lp (apW mx) ⟨eV v0 v1 v4 v5 v6 v7 v14 v15 v16 v22,h⟩ κn κx=bT 1 v0 v15 h (fun a0 h=>ar a0 h (fun a1 h=>kc (CL mx) run lp (apE mx) ⟨eV v0 v1 v4 v5 v15 a1 v14 v15 v16 v22,h⟩ (fun s=>kc (CL mx) run lp (apz mx) s κn (kcO 1 κn κx)) (kcO 1 κn κx))):=by kernel_rfl
theorem zx:kc (CL mx) run lp (apQ mx) ⟨eV v0 v1 v4 v5 v6 v7 v14 v15 v16 v22,h⟩ κn κx=arith fu v15 (.int 9223372036854775807 1) h (fun a0 h=>κn ⟨eV v0 v1 v4 v5 v6 v7 v14 a0 v16 v22,h⟩):=by kernel_rfl
theorem aae:kc (CL mx) run lp (apE mx) ⟨eV v0 v1 v4 v5 v6 v7 v14 v15 v16 v22,h⟩ κn κx=bG v1 (bH v0 h (fun a0 h=>arith iT a0 (.int 9223372036854775807 1) h (fun a1 h=>arith iT a1 v6 h (fun a2 h=>bT 1 v0 a2 h (fun a3 h=>ar a3 h (fun a4 h=>κn ⟨eV v0 v1 v4 v5 v6 a4 v14 v15 v16 v1,h⟩)))))) (κn ⟨eV v0 v1 v4 v5 v6 v7 v14 v15 v16 v1,h⟩):=by kernel_rfl
theorem aar:kc (CL mx) run lp (apz mx) ⟨eV v0 v1 v4 v5 v6 v7 v14 v15 v16 v22,h⟩ κn κx=aa0 18446744073709551615 64 v5 (.int 18446744073709551615 8) h (fun a0 h=>cvI 18446744073709551615 v7 h (fun a1 h=>mh 18446744073709551615 18446744073709551615 Nat.lor a0 a1 h (fun a2 h=>κn ⟨eV v0 v1 v4 a2 v6 v7 v14 v15 v16 v22,h⟩))):=by kernel_rfl
theorem ao3:kcE (CL mx) [.tmp 4] ⟨eV v0 v1 v4 v5 v6 v7 v14 v15 v16 v22,h⟩=some (.vh v4 h):=(bJ _ _ _).trans (by kernel_rfl)
theorem aro:dp (CL mx) 220=some ⟨akk mx,[0,1,4,5,6,7,14,15,16,22],38,[.tmp 4]⟩:=by kernel_rfl
end
theorem aoN (mx:Int) (run:Run) (lp:Lp) (x0 x1:AV) (h:AH):cW (CL mx) run lp 220 [x0,x1] h=vhO (kc (CL mx) run lp (akk mx) ⟨eV x0 x1 .bot .bot .bot .bot .bot .bot .bot .bot,h⟩ (kcE (CL mx) [.tmp 4]) (kcQ (CL mx) [.tmp 4])):=(bK (by kernel_rfl) (aro mx) (by kernel_rfl)).trans (by kernel_rfl)
theorem adT (mx:Int) (p:List Nat):eF (CL mx) (kAt p (kOf (CL mx) 220)):=jF p (jT (CL mx) 220)
def zb (v0 v1 v2 v6:AV):Tm:=(.nd 2 (.nd 1 (.lf 0 v0) (.lf 1 v1)) (.nd 6 (.lf 2 v2) (.lf 6 v6)))
def abS (mx:Int):K:=kAt [] (kOf (CL mx) 222)
section
set_option maxRecDepth 100000
variable (mx:Int) (run:Run) (lp:Lp) (κn:Kt) (κx:Ex→Kt) (h:AH) (v0 v1 v2 v6:AV)
theorem afX:kc (CL mx) run lp (abS mx) ⟨zb v0 v1 v2 v6,h⟩ κn κx=cmp ile v1 v0 h (fun a0 h=>av a0 true (fun κ=>aY v0 h κ) h (fun a1 h=>av a0 true (fun κ=>aY v2 h κ) h (fun a2 h=>av a0 true (fun κ=>cmp ile a1 a2 h κ) h (fun a3 h=>fm a0 a3 (.bool false) h (fun a4 h=>κx .ret ⟨zb v0 v1 v2 a4,h⟩))))):=by kernel_rfl
theorem ajT:kcE (CL mx) [.tmp 6] ⟨zb v0 v1 v2 v6,h⟩=some (.vh v6 h):=(bJ _ _ _).trans (by kernel_rfl)
theorem anB:dp (CL mx) 222=some ⟨abS mx,[0,1,2,6],15,[.tmp 6]⟩:=by kernel_rfl
end
theorem ajd (mx:Int) (run:Run) (lp:Lp) (x0 x1 x2:AV) (h:AH):cW (CL mx) run lp 222 [x0,x1,x2] h=vhO (kc (CL mx) run lp (abS mx) ⟨zb x0 x1 x2 .bot,h⟩ (kcE (CL mx) [.tmp 6]) (kcQ (CL mx) [.tmp 6])):=(bK (by kernel_rfl) (anB mx) (by kernel_rfl)).trans (by kernel_rfl)
def adi:=And.intro @afX (@ajT)
end
section
variable {mx:Int} {m:Nat} {K:RC} {kd:Nat→Nat} {h:AH} {p:Nat} {c:PC} {s:PR}
theorem Nx.trans {n:Nat} {s2 s3:PR} {h2 h3:AH} (hn:n≤h.length) (a: ∀kd2,RS m K kd2 h2 p c s2→(∀i,i<n→kd i=0→kd2 i=0)→Nx n m K kd2 h2 p c s3 h3) (b:Nx n m K kd h p c s2 h2):Nx n m K kd h p c s3 h3:=by
 obtain ⟨kd2,R2,l2,f2⟩:=b
 obtain ⟨kd3,R3,l3,f3⟩:=a kd2 R2 fun i hi h0=>(f2 i hi h0).2
 exact ⟨kd3,R3,Nat.le_trans l2 l3,fun i hi h0=>by
  have e1:=f2 i hi h0
  have e2:=f3 i hi e1.2
  exact ⟨e2.1.trans e1.1,e2.2⟩⟩
theorem Wf.bh (W:Wf c s) (e a:Nat):Wf c (s.bh e a):=by
 unfold PR.bh
 split
 ·exact ⟨W.at_,W.last,W.parts,W.dep,W.stk⟩
 ·exact W
theorem Wf.byte (W:Wf c s):Wf c (s.byte c).2:=by
 unfold PR.byte
 cases e:c.data[s.at_]? with
 |none=>exact W.bh _ _
 |some b=>
  have:=(List.getElem?_eq_some_iff.1 e).1
  exact ⟨this,W.last,W.parts,W.dep,W.stk⟩
theorem anw (hb: ∀b∈c.data,b<256):(s.byte c).1<256:=by
 unfold PR.byte
 cases e:c.data[s.at_]? with
 |none=>show 0<256;decide
 |some b=>exact hb b (List.mem_of_getElem? e)
theorem agc:(s.byte c).2.last=s.last:=by
 unfold PR.byte
 cases c.data[s.at_]? with
 |none=>show (s.bh 10 c.data.length).last=s.last;unfold PR.bh;split<;>rfl
 |some b=>rfl
theorem anp (c:Nat) (hc:c<256):Nat.land c 127=c%128:=Nat.and_two_pow_sub_one_eq_mod c 7
theorem ap1 (k:Nat):2^(7*k)=128^k:=by rw [Nat.pow_mul]
theorem aql {cnt:Nat} (h:cnt≤9):128^cnt≤9223372036854775808:=by
 have:128^cnt≤128^9:=Nat.pow_le_pow_right (by omega) h
 exact Nat.le_trans this (by decide)
theorem ahY {acc cnt low:Nat} (h9:cnt≤9) (ha:acc<128^cnt) (hl:low<128) (h1:cnt=9→low≤1):
 low*128^cnt≤9223372036854775808*1+9223372036854775807∧Nat.lor acc (low*128^cnt)=acc+low*128^cnt∧acc+low*128^cnt≤18446744073709551615:=by
 have hp:low*128^cnt≤9223372036854775808:=by
  rcases Nat.lt_or_ge cnt 9 with h|h
  ·have:128^cnt≤128^8:=Nat.pow_le_pow_right (by omega) (by omega)
   calc low*128^cnt≤127*128^8:=Nat.mul_le_mul (by omega) this
    _≤_:=by decide
  ·obtain rfl:cnt=9:=by omega
   have:=h1 rfl
   calc low*128^9≤1*128^9:=Nat.mul_le_mul this (Nat.le_refl _)
    _≤_:=by decide
 have h2:=aql h9
 refine ⟨by omega,?_,by omega⟩
 have:=Nat.two_pow_add_eq_or_of_lt (b:=acc) (i:=7*cnt) (by rw [ap1];exact ha) low
 rw [ap1] at this
 show acc|||low*128^cnt=_
 rw [Nat.or_comm,Nat.mul_comm low,←this,Nat.add_comm]
def mtL (acc cnt:Nat):List AV:=[.bool true,.int 18446744073709551615 (acc:Int),.int 9223372036854775807 (cnt:Int)]
theorem agp {mb y acc cnt b:Nat} (hg:ae h mb=some (.cells (mtL acc cnt) y)) (hc:b<256) (h9:cnt≤9) (ha:acc<128^cnt) (f:Nat):
 aG (fun r h'=>(cnt=9∧1<b∧r= .tup [.bool false,.int 9223372036854775807 20]∧h'=h)∨(¬(cnt=9∧1<b)∧r= .tup [.bool (decide (b<128)),.int 9223372036854775807 0]∧h'=h.set mb (some (.cells (mtL (acc+b%128*128^cnt) (cnt+1)) y))))
  ((rl (CL mx) (f+1)).run 52 [.pto mb 0,.int 255 (b:Int)] h):=by
 refine aG.runs (n:=f) (als mx _ _ _ _ _) ?_
 have hm:mb<h.length:=aO hg
 unfold mtL at hg
 have n10:decide ((cnt:Int)=10)=false:=by rw [decide_eq_false_iff_not];omega
 have b1: ∀(h:AH) (κ:Ka),mh 255 255 Nat.land (.int 255 (b:Int)) (.int 255 127) h κ=κ (.int 255 ((b%128:Nat):Int)) h:=fun h κ=>by
  rw [qD,jC (by omega),show toU 255 127=127 from aee (by decide) (by decide),anp b hc,ep (by omega)]
 have w1:aZ 18446744073709551615 ((b%128:Nat):Int)=((b%128:Nat):Int):=ep (by omega)
 by_cases h1:cnt=9∧1<b
 ·obtain ⟨e9,h1⟩:=h1
  have d9:decide ((cnt:Int)=9)=true:=by rw [decide_eq_true_iff];omega
  have d1:decide ((1:Int)<(b:Int))=true:=by rw [decide_eq_true_iff];omega
  simp only [sy,Nat.reduceAdd,Nat.reduceMul,Nat.reduceSub,Nat.reduceLeDiff,Nat.reduceEqDiff,Nat.reduceLT,reduceIte,xR,hg,n10,b1,w1,d9,d1]
  exact Ends.mk (.inl ⟨e9,h1,rfl,rfl⟩)
 ·obtain ⟨o1,o2,o3⟩:=ahY (low:=b%128) h9 ha (by omega) (by intro e;omega)
  have w7:aZ 9223372036854775807 (7*(cnt:Int))=((7*cnt:Nat):Int):=by rw [bd (by omega) (by omega)];push_cast;rfl
  have s7: ∀(h:AH) (κ:Ka),aa0 18446744073709551615 64 (.int 18446744073709551615 ((b%128:Nat):Int)) (.int 9223372036854775807 ((7*cnt:Nat):Int)) h κ=κ (.int 18446744073709551615 ((b%128*128^cnt:Nat):Int)) h:=fun h κ=>by
   rw [adY _ (by omega) (by omega),show ((7*cnt:Nat):Int).toNat=7*cnt from Int.toNat_natCast _,ap1,show ((b%128:Nat):Int)*((128^cnt:Nat):Int)=((b%128*128^cnt:Nat):Int) by push_cast;rfl,ep (by omega)]
  have b2: ∀(h:AH) (κ:Ka),mh 18446744073709551615 18446744073709551615 Nat.lor (.int 18446744073709551615 (acc:Int)) (.int 18446744073709551615 ((b%128*128^cnt:Nat):Int)) h κ=κ (.int 18446744073709551615 ((acc+b%128*128^cnt:Nat):Int)) h:=fun h κ=>by
   rw [qD,jC (by omega),jC (by omega),o2,ep o3]
  have w2:aZ 9223372036854775807 ((cnt:Int)+1)=((cnt+1:Nat):Int):=by rw [bd (by omega) (by omega)];push_cast;rfl
  have hg2: ∀X,ae (h.set mb (some X)) mb=some X:=fun X=>az hm _
  have ble2: ∀(i:Nat) (x:Option Blk) (y:AH),Nat.ble (aj y) (aj (y.set i x))=true:=fun i x y=>by rw [bL,ah,ah];simp
  have c9:decide ((cnt:Int)=9)=decide (cnt=9):=by
   by_cases e:cnt=9
   ·rw [decide_eq_true e,decide_eq_true_iff];omega
   ·rw [decide_eq_false e,decide_eq_false_iff_not];omega
  by_cases hs:b<128
  ·have d128:decide ((128:Int)≤(b:Int))=false:=by rw [decide_eq_false_iff_not];omega
   by_cases h9':cnt=9
   ·have d9:decide ((cnt:Int)=9)=true:=by rw [c9];exact decide_eq_true h9'
    have d1:decide ((1:Int)<(b:Int))=false:=by rw [decide_eq_false_iff_not];omega
    simp only [sy,List.length_append,Nat.reduceAdd,Nat.reduceMul,Nat.reduceSub,Nat.reduceLeDiff,Nat.reduceEqDiff,Nat.reduceLT,reduceIte,xR,hg,n10,b1,w1,d9,d1,hg2,w2,w7,s7,b2,ble2,List.set_set,d128]
    exact Ends.mk (.inr ⟨h1,by rw [decide_eq_true hs],rfl⟩)
   ·have d9:decide ((cnt:Int)=9)=false:=by rw [c9];exact decide_eq_false h9'
    simp only [sy,List.length_append,Nat.reduceAdd,Nat.reduceMul,Nat.reduceSub,Nat.reduceLeDiff,Nat.reduceEqDiff,Nat.reduceLT,reduceIte,xR,hg,n10,b1,w1,d9,hg2,w2,w7,s7,b2,ble2,List.set_set,d128]
    exact Ends.mk (.inr ⟨h1,by rw [decide_eq_true hs],rfl⟩)
  ·have d128:decide ((128:Int)≤(b:Int))=true:=by rw [decide_eq_true_iff];omega
   have d9:decide ((cnt:Int)=9)=false:=by rw [c9];exact decide_eq_false (by omega)
   simp only [sy,List.length_append,Nat.reduceAdd,Nat.reduceMul,Nat.reduceSub,Nat.reduceLeDiff,Nat.reduceEqDiff,Nat.reduceLT,reduceIte,xR,hg,n10,b1,w1,d9,hg2,w2,w7,s7,b2,ble2,List.set_set,d128]
   exact Ends.mk (.inr ⟨h1,by rw [decide_eq_false hs],rfl⟩)
theorem aff {mb y acc cnt:Nat} (hg:ae h mb=some (.cells (mtL acc cnt) y)) (f:Nat):
 aG (fun r h'=>r= .int 18446744073709551615 (acc:Int)∧h'=h) ((rl (CL mx) (f+1)).run 53 [.pto mb 0] h):=by
 refine aG.runs (n:=f) (alP mx _ _ _ _) ?_
 unfold mtL at hg
 simp only [sy,List.length_append,Nat.reduceAdd,Nat.reduceMul,Nat.reduceSub,Nat.reduceLeDiff,Nat.reduceEqDiff,Nat.reduceLT,reduceIte,aqz,hg]
 exact Ends.mk ⟨rfl,rfl⟩
theorem RS.frn (R:RS m K kd h p c s) {q:Nat} {X:Option Blk} (hm:m≤q) (h0:kd q=0):RS m K kd (h.set q X) p c s:=by
 obtain ⟨stp,y,sl,st,ct,cl,Q,hp,o2,o3,ok,o4,o5⟩:=R.ex
 have f: ∀i,kd i≠0→ae (h.set q X) i=ae h i:=fun i hi=>ai (fun cc=>hi (by rw [←cc];exact h0)) _
 have mm: ∀{j:Nat},j≠0→ ∀b,b<h.length→kd b=j→kd b=j∧ae (h.set q X) b=ae h b:=fun hj b hb e=>⟨e,f b (by rw [e];exact hj)⟩
 exact R.make R.kp (fun i hi=>⟨R.lo i hi,ai (by omega) _⟩) (by rw [List.length_set];exact Nat.le_refl _) (by rw [f p (by rw [R.kp];decide)];exact hp) (o2.mono (mm (by decide))) (o3.mono (mm (by decide))) (ok.mono fun b hb h1 _=>⟨rfl,f b (by omega)⟩) (o4.mono (mm (by decide))) (o5.mono (mm (by decide)))
theorem Nx.pre {n:Nat} {kd2:Nat→Nat} {s3:PR} {h2 h3:AH} (a:h.length≤h2.length∧ ∀i,i<n→kd i=0→ae h2 i=ae h i∧kd2 i=0) (b:Nx n m K kd2 h2 p c s3 h3):Nx n m K kd h p c s3 h3:=by
 obtain ⟨kd3,R3,l3,f3⟩:=b
 exact ⟨kd3,R3,Nat.le_trans a.1 l3,fun i hi h0=>by
  have e1:=a.2 i hi h0
  have e2:=f3 i hi e1.2
  exact ⟨e2.1.trans e1.1,e2.2⟩⟩
theorem amj {Q:Option Rs→Prop} {κn:Kt} {κx:Ex→Kt} {n mb y:Nat} (v1 v4:AV) (hmn:m≤n) (hnm:n≤mb): ∀(k f:Nat) (kd:Nat→Nat) (h:AH) (s:PR) (acc cnt:Nat) (v6 v7 v8 v12 v21 v28 v36:AV),cnt+k=12→cnt≤9→acc<128^cnt→k+10≤f→n≤h.length→RS m K kd h p c s→Wf c s→ae h mb=some (.cells (mtL acc cnt) y)→kd mb=0→
 (∀h' v6 v7 v8 v12 v21 v28 v36,Nx n m K kd h p c (s.cC c true k acc cnt).2 h'→(s.cC c true k acc cnt).1=0→Q (κx (.exit 0) ⟨dt (.pto p 0) v1 v4 (.pto mb 0) v6 v7 v8 v12 v21 v28 v36,h'⟩))→
 (∀h' v6 v7 v8 v12 v21 v28 v36,Nx n m K kd h p c (s.cC c true k acc cnt).2 h'→Q (κx .ret ⟨dt (.pto p 0) v1 (.int 18446744073709551615 ((s.cC c true k acc cnt).1:Int)) (.pto mb 0) v6 v7 v8 v12 v21 v28 v36,h'⟩))→
 Q (kcR κn κx ((rl (CL mx) f).lp (ace mx) ⟨dt (.pto p 0) v1 v4 (.pto mb 0) v6 v7 v8 v12 v21 v28 v36,h⟩)):=by
 intro k
 induction k with
 |zero=>intro f kd h s acc cnt v6 v7 v8 v12 v21 v28 v36 hk h9;omega
 |succ k ih=>
  intro f kd h s acc cnt v6 v7 v8 v12 v21 v28 v36 hk h9 hacc hf hnl R W hg hm0 hE hR
  obtain ⟨f,rfl⟩: ∃q,f=(q+9)+1:=⟨f-10,by omega⟩
  have okc:=eC (mx:=mx) R (f+8)
  refine iX (aav mx _) ?_
  unfold PR.cC at hE hR
  by_cases hc0:s.code≠0
  ·rw [if_pos hc0] at hE hR
   simp only [sy,List.length_append,Nat.reduceAdd,Nat.reduceMul,Nat.reduceSub,Nat.reduceLeDiff,Nat.reduceEqDiff,Nat.reduceLT,reduceIte,rT,okc,decide_eq_false hc0]
   exact hE _ _ _ _ _ _ _ _ ⟨kd,R,Nat.le_refl _,fun i _ h0=>⟨rfl,h0⟩⟩ rfl
  rw [if_neg hc0] at hE hR
  have hc0':s.code=0:=by omega
  obtain ⟨stp,yy,sl,st,ct,cl,QQ,hp,_⟩:=R.ex
  unfold rdL at hp
  simp only [sy,List.length_append,Nat.reduceAdd,Nat.reduceMul,Nat.reduceSub,Nat.reduceLeDiff,Nat.reduceEqDiff,Nat.reduceLT,reduceIte,rT,okc,decide_eq_true hc0',hp,n64]
  refine bE (wX R W (a:=s.last) (f+6)).call ?_
  rintro r h1 ⟨rfl,nx1⟩
  have W1:=W.byte
  have hb256:=anw (s:=s) R.byt
  have hlast:=agc (c:=c) (s:=s)
  obtain ⟨kd1,R1,l1,f1⟩:=nx1
  have hgl:=aO hg
  have hg1:ae h1 mb=some (.cells (mtL acc cnt) y):=by rw [(f1 mb hgl hm0).1];exact hg
  have hm1:kd1 mb=0:=(f1 mb hgl hm0).2
  have okc1:=eC (mx:=mx) R1 (f+8)
  have nx1:Nx n m K kd h p c (s.byte c).2 h1:=⟨kd1,R1,l1,fun i hi h0=>f1 i (by omega) h0⟩
  by_cases hc1:(s.byte c).2.code≠0
  ·rw [if_pos hc1] at hE hR
   simp only [sy,List.length_append,Nat.reduceAdd,Nat.reduceMul,Nat.reduceSub,Nat.reduceLeDiff,Nat.reduceEqDiff,Nat.reduceLT,reduceIte,okc1,decide_eq_false hc1]
   exact hE _ _ _ _ _ _ _ _ nx1 rfl
  rw [if_neg hc1] at hE hR
  have hc1':(s.byte c).2.code=0:=by omega
  simp only [sy,List.length_append,Nat.reduceAdd,Nat.reduceMul,Nat.reduceSub,Nat.reduceLeDiff,Nat.reduceEqDiff,Nat.reduceLT,reduceIte,okc1,decide_eq_true hc1']
  refine bE (agp hg1 hb256 h9 hacc (f+8)).call ?_
  rintro r h2 (⟨e9,hb1,rfl,rfl⟩|⟨hn9,rfl,rfl⟩)
  ·rw [if_pos ⟨e9,hb1⟩] at hE hR
   obtain ⟨stp1,y1,sl1,st1,ct1,cl1,QQ1,hp1,_⟩:=R1.ex
   unfold rdL at hp1
   have g20:decide ((20:Int)≠0)=true:=by decide
   simp only [sy,List.length_append,Nat.reduceAdd,Nat.reduceMul,Nat.reduceSub,Nat.reduceLeDiff,Nat.reduceEqDiff,Nat.reduceLT,reduceIte,qU,rN,hp1,n64,g20]
   rw [hlast]
   have w20:=eM (mx:=mx) R1 20 s.last (f+8)
   refine bE (aG.call w20) ?_
   rintro r h3 ⟨rfl,R3,n3,f3⟩
   have nx3:Nx n m K kd h p c ((s.byte c).2.bh 20 s.last) h3:=⟨kd1,R3,by omega,fun i hi h0=>by
    have e1:=f1 i (by omega) h0
    exact ⟨by rw [f3 i (by rw [e1.2];decide)];exact e1.1,e1.2⟩⟩
   have hcw:((s.byte c).2.bh 20 s.last).code≠0:=by unfold PR.bh;rw [if_pos hc1'];exact (by decide:(20:Nat)≠0)
   have okc3:=eC (mx:=mx) R3 (f+7)
   refine iX (n:=f+8) (aav mx _) ?_
   simp only [sy,List.length_append,Nat.reduceAdd,Nat.reduceMul,Nat.reduceSub,Nat.reduceLeDiff,Nat.reduceEqDiff,Nat.reduceLT,reduceIte,rT,okc3,decide_eq_false hcw]
   exact hE _ _ _ _ _ _ _ _ nx3 rfl
  ·rw [if_neg hn9] at hE hR
   have R2:=R1.frn (q:=mb) (X:=some (.cells (mtL (acc+(s.byte c).1%128*128^cnt) (cnt+1)) y)) (by omega) hm1
   have fx:h.length≤(h1.set mb (some (.cells (mtL (acc+(s.byte c).1%128*128^cnt) (cnt+1)) y))).length∧ ∀i,i<n→kd i=0→ae (h1.set mb (some (.cells (mtL (acc+(s.byte c).1%128*128^cnt) (cnt+1)) y))) i=ae h i∧kd1 i=0:=⟨by rw [List.length_set];exact l1,fun i hi h0=>by
    have e1:=f1 i (by omega) h0
    exact ⟨by rw [ai (by omega)];exact e1.1,e1.2⟩⟩
   have hg2:ae (h1.set mb (some (.cells (mtL (acc+(s.byte c).1%128*128^cnt) (cnt+1)) y))) mb=some (.cells (mtL (acc+(s.byte c).1%128*128^cnt) (cnt+1)) y):=az (by omega) _
   have g0:decide ((0:Int)≠0)=false:=by decide
   have hl2:(h1.set mb (some (.cells (mtL (acc+(s.byte c).1%128*128^cnt) (cnt+1)) y))).length=h1.length:=List.length_set
   generalize h1.set mb (some (.cells (mtL (acc+(s.byte c).1%128*128^cnt) (cnt+1)) y))=h2 at*
   by_cases h128:128≤(s.byte c).1
   ·rw [if_pos h128] at hE hR
    simp only [sy,List.length_append,Nat.reduceAdd,Nat.reduceMul,Nat.reduceSub,Nat.reduceLeDiff,Nat.reduceEqDiff,Nat.reduceLT,reduceIte,qU,rN,g0,decide_eq_false (show ¬(s.byte c).1<128 by omega)]
    have hlt:(s.byte c).1%128*128^cnt+acc<128^(cnt+1):=by
     rw [Nat.pow_succ]
     have:(s.byte c).1%128*128^cnt+128^cnt≤128*128^cnt:=by
      rw [←Nat.succ_mul];exact Nat.mul_le_mul_right _ (by omega)
     omega
    refine ih (f+9) kd1 h2 (s.byte c).2 _ (cnt+1) _ _ _ _ _ _ _ (by omega) (by omega) (by omega) (by omega) (by omega) R2 W1 hg2 hm1 (fun h' v6 v7 v8 v12 v21 v28 v36 nx e=>?_) (fun h' v6 v7 v8 v12 v21 v28 v36 nx=>?_)
    ·exact hE _ _ _ _ _ _ _ _ (Nx.pre fx nx) e
    ·exact hR _ _ _ _ _ _ _ _ (Nx.pre fx nx)
   ·rw [if_neg h128,if_neg (by simp)] at hE hR
    simp only [sy,List.length_append,Nat.reduceAdd,Nat.reduceMul,Nat.reduceSub,Nat.reduceLeDiff,Nat.reduceEqDiff,Nat.reduceLT,reduceIte,qU,rN,g0,decide_eq_true (show (s.byte c).1<128 by omega)]
    refine bE (aff hg2 (f+8)).call ?_
    rintro r h3 ⟨rfl,rfl⟩
    exact hR _ _ _ _ _ _ _ _ ⟨kd1,R2,fx.1,fx.2⟩
theorem af0 (R:RS m K kd h p c s) (W:Wf c s) (f:Nat):aG (fun r h'=>r= .int 18446744073709551615 ((s.cC c true 12 0 0).1:Int)∧Nx h.length m K kd h p c (s.cC c true 12 0 0).2 h') ((rl (CL mx) (f+31)).run 221 [.pto p 0,.bool true] h):=by
 refine aG.runs (n:=f+30) (aip mx _ _ _ _ _) ?_
 refine wEq (afA ..) ?_
 refine wEq (eB (cs:=mtL 0 0) (by kernel_rfl)) ?_
 rw [dC]
 refine wEq (cY rfl rfl rfl) ?_
 have R1:=R.grow (h':=h++[some (Blk.cells (mtL 0 0) (149+1))]) (by simp) (fun i hi=>aq hi _)
 have hz:=aI h (some (Blk.cells (mtL 0 0) (149+1)))
 have k0:cN kd h.length 0 h.length=0:=fP (Nat.le_refl _)
 simp only [sy,Nat.reduceAdd,Nat.reduceMul,Nat.reduceSub,Nat.reduceLeDiff,Nat.reduceEqDiff,Nat.reduceLT,reduceIte,ag4]
 have fin: ∀{s':PR} {h':AH},Nx h.length m K (cN kd h.length 0) (h++[some (Blk.cells (mtL 0 0) (149+1))]) p c s' h'→Nx h.length m K kd h p c s' h':=fun nx=>Nx.pre ⟨by simp,fun i hi h0=>⟨aq hi _,by rw [bR hi];exact h0⟩⟩ nx
 refine amj (n:=h.length) (mb:=h.length) (.bool true) (.int 18446744073709551615 0) R.ml (Nat.le_refl _) 12 (f+30) _ _ s 0 0 _ _ _ _ _ _ _ (by omega) (by omega) (by decide) (by omega) (by simp) R1 W hz k0 (fun h' v6 v7 v8 v12 v21 v28 v36 nx e=>?_) (fun h' v6 v7 v8 v12 v21 v28 v36 nx=>?_)
 ·simp only [sy,List.length_append,Nat.reduceAdd,Nat.reduceMul,Nat.reduceSub,Nat.reduceLeDiff,Nat.reduceEqDiff,Nat.reduceLT,reduceIte,ahK,aap]
  exact Ends.mk ⟨by rw [e];rfl,fin nx⟩
 ·simp only [sy,List.length_append,Nat.reduceAdd,Nat.reduceMul,Nat.reduceSub,Nat.reduceLeDiff,Nat.reduceEqDiff,Nat.reduceLT,reduceIte,aap]
  exact Ends.mk ⟨rfl,fin nx⟩
theorem afO (n a b:Nat) (f:Nat):aG (fun r h'=>r= .bool (decide (a≤n∧n≤b))∧h'=h) ((rl (CL mx) (f+1)).run 222 [.int 18446744073709551615 (n:Int),.int 18446744073709551615 (a:Int),.int 18446744073709551615 (b:Int)] h):=by
 refine aG.runs (n:=f) (ajd mx _ _ _ _ _ _) ?_
 by_cases h1:a≤n
 ·have g1:decide ((a:Int)≤(n:Int))=true:=by rw [decide_eq_true_iff];omega
  by_cases h2:n≤b
  ·have g2:decide ((n:Int)≤(b:Int))=true:=by rw [decide_eq_true_iff];omega
   simp only [sy,List.length_append,Nat.reduceAdd,Nat.reduceMul,Nat.reduceSub,Nat.reduceLeDiff,Nat.reduceEqDiff,Nat.reduceLT,reduceIte,adi,g1,g2]
   exact Ends.mk ⟨by rw [decide_eq_true (And.intro h1 h2)],rfl⟩
  ·have g2:decide ((n:Int)≤(b:Int))=false:=by rw [decide_eq_false_iff_not];omega
   simp only [sy,List.length_append,Nat.reduceAdd,Nat.reduceMul,Nat.reduceSub,Nat.reduceLeDiff,Nat.reduceEqDiff,Nat.reduceLT,reduceIte,adi,g1,g2]
   exact Ends.mk ⟨by rw [decide_eq_false (fun cc=>h2 cc.2)],rfl⟩
 ·have g1:decide ((a:Int)≤(n:Int))=false:=by rw [decide_eq_false_iff_not];omega
  simp only [sy,List.length_append,Nat.reduceAdd,Nat.reduceMul,Nat.reduceSub,Nat.reduceLeDiff,Nat.reduceEqDiff,Nat.reduceLT,reduceIte,adi,g1]
  exact Ends.mk ⟨by rw [decide_eq_false (fun cc=>h1 cc.1)],rfl⟩
end
end Go.Proofs.YteapfopaiocpeaaGreatDoor
