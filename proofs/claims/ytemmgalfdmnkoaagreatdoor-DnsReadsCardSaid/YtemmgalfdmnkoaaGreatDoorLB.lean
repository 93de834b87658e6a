/- Contracts of this program, and what they tell in plain Lean. -/
import Derived.Test.YtemmgalfdmnkoaaGreatDoorMF
import Derived.Test.YtemmgalfdmnkoaaGreatDoorAs
import Derived.Test.YtemmgalfdmnkoaaGreatDoorME
import Derived.Test.YtemmgalfdmnkoaaGreatDoorLA
namespace Go.Proofs.YtemmgalfdmnkoaaGreatDoor
set_option linter.unusedSimpArgs false
set_option linter.unusedVariables false
set_option linter.unnecessarySimpa false
set_option linter.defProp false
noncomputable section
def Cx.runs (C:Cx) (g:Nat→Bool):Cx:={C with own:=g,tr:=fun _=>false,fz:=fun _=>false}
theorem n7 (C:Cx) (g:Nat→Bool):(C.runs g).gl=C.gl:=rfl
theorem c7.runs {P:Program} {C:Cx} (X:c7 P C) (g:Nat→Bool):c7 P (C.runs g):=
 ⟨X.ty,X.one,X.fl,X.fn,fun f g' e args h v h' k ok w ρ us I hv=>by
  obtain ⟨u,w',ok',ρ',h1,h2,h3,h4⟩:=X.ext f g' e args h v h' k ok w ρ us (I.cR (n7 C g).symm) hv;exact ⟨u,w',ok',ρ',h1,h2,h3.cR (n7 C g),h4⟩,
  fun f args v e=>(X.rD f args v e).cR (n7 C g),
  fun f g' e run H args h r h' k=>(X.orc f g' e run (fun f args h r h' k=>(H f args h r h' k).cR (n7 C g).symm) args h r h' k).cR (n7 C g),X.mixed,X.sq⟩
def heT:BT (List Ent):=.nd 132 (.lf 6 [mg]) (.lf 132 [uH])
def CL (mx:Int):Cx:=(((C0 mx).told (.lf 5 [([],.bool true)])).heard heT).runs fun f=>not (or (Nat.beq f 5) (Nat.beq f 8))
end
theorem awL {mx:Int}:c7 Tryz.prog (CL mx):=((c7.told bN (show cu Tryz.prog (C0 mx) (.lf 5 [([],.bool true)]) from fun p hp=>by
 obtain rfl:p=([],.bool true):=by simpa using hp
 exact atk)).heard (t:=heT) (gy.cR (C:=C0 mx) ⟨fun p hp=>by
  obtain rfl:p=mg:=by simpa using hp
  exact x9,fun p hp=>by
  obtain rfl:p=uH:=by simpa using hp
  exact awH⟩ rfl)).runs _
noncomputable section
def um (v0 v1 v2 v11:AV):Tm:=(.nd 2 (.nd 1 (.lf 0 v0) (.lf 1 v1)) (.nd 11 (.lf 2 v2) (.lf 11 v11)))
def ac0 (mx:Int):K:=kAt [] (kOf (CL mx) 138)
section
set_option maxRecDepth 100000
variable (mx:Int) (run:Run) (lp:Lp) (κn:Kt) (κx:Ex→Kt) (h:AH) (v0 v1 v2 v11:AV)
theorem ah8:kc (CL mx) run lp (ac0 mx) ⟨um v0 v1 v2 v11,h⟩ κn κx=aM v0 h (fun a0 h=>aj 20 a0 h (fun a1 h=>aj 0 a1 h (fun a2 h=>ao a2 h (fun a3 h=>cmp cD a3 (.int 9223372036854775807 0) h (fun a4 h=>bJ a4 (dX (placeOf (CL mx) [(0,30),(1,3)]) [.int 9223372036854775807 0,.int 9223372036854775807 0] [(0,v1),(1,v2)] h (fun a5 h=>aM v0 h (fun a6 h=>aj 20 a6 h (fun a7 h=>ay 2 a7 a5 h (fun a8 h=>κn ⟨um v0 v1 v2 a4,h⟩))))) (κn ⟨um v0 v1 v2 a4,h⟩)))))):=by kernel_rfl
theorem akv:kcE (CL mx) [] ⟨um v0 v1 v2 v11,h⟩=some (.vh (.tup []) h):=(bW _ _ _).trans (by kernel_rfl)
theorem aqg:dz (CL mx) 138=some ⟨ac0 mx,[0,1,2,11],18,[]⟩:=by kernel_rfl
end
theorem aps (mx:Int) (run:Run) (lp:Lp) (x0 x1 x2:AV) (h:AH):dk (CL mx) run lp 138 [x0,x1,x2] h=vhO (kc (CL mx) run lp (ac0 mx) ⟨um x0 x1 x2 .bot,h⟩ (kcE (CL mx) []) (kcQ (CL mx) [])):=(bV (by kernel_rfl) (aqg mx) (by kernel_rfl)).trans (by kernel_rfl)
def adM:=Du @ah8 (@akv)
def afO (v0 v2:AV):Tm:=(.nd 2 (.lf 0 v0) (.lf 2 v2))
def akx (mx:Int):K:=kAt [] (kOf (CL mx) 136)
section
set_option maxRecDepth 100000
variable (mx:Int) (run:Run) (lp:Lp) (κn:Kt) (κx:Ex→Kt) (h:AH) (v0 v2:AV)
theorem akd:kc (CL mx) run lp (akx mx) ⟨afO v0 v2,h⟩ κn κx=aM v0 h (fun a0 h=>aj 20 a0 h (fun a1 h=>aj 0 a1 h (fun a2 h=>ao a2 h (fun a3 h=>cmp cD a3 (.int 9223372036854775807 0) h (fun a4 h=>κx .ret ⟨afO v0 a4,h⟩))))):=by kernel_rfl
theorem aqG:kcE (CL mx) [.tmp 2] ⟨afO v0 v2,h⟩=some (.vh v2 h):=(bW _ _ _).trans (by kernel_rfl)
theorem avm:dz (CL mx) 136=some ⟨akx mx,[0,2],9,[.tmp 2]⟩:=by kernel_rfl
end
theorem ase (mx:Int) (run:Run) (lp:Lp) (x0:AV) (h:AH):dk (CL mx) run lp 136 [x0] h=vhO (kc (CL mx) run lp (akx mx) ⟨afO x0 .bot,h⟩ (kcE (CL mx) [.tmp 2]) (kcQ (CL mx) [.tmp 2])):=(bV (by kernel_rfl) (avm mx) (by kernel_rfl)).trans (by kernel_rfl)
def axZ:=Du @akd (@aqG)
def lN (v0 v2 G:AV):Tm:=(.nd 2 (.lf 0 v0) (.nd 8 (.lf 2 v2) (.lf 8 G)))
def adl (mx:Int):K:=kAt [] (kOf (CL mx) 202)
def apQ (mx:Int):K:=kAt [1,1,0] (kOf (CL mx) 202)
def ape (mx:Int):K:=kAt [1,1,1] (kOf (CL mx) 202)
section
set_option maxRecDepth 100000
variable (mx:Int) (run:Run) (lp:Lp) (κn:Kt) (κx:Ex→Kt) (h:AH) (v0 v2 G:AV)
theorem ajn:kc (CL mx) run lp (adl mx) ⟨lN v0 v2 G,h⟩ κn κx=aM v0 h (fun a0 h=>aj 17 a0 h (fun a1 h=>ao a1 h (fun a2 h=>bG a2 h (fun a3 h=>cmp cD a3 (.int 9223372036854775807 0) h (fun a4 h=>bJ a4 (κx .ret ⟨lN v0 (.int 9223372036854775807 4611686018427387904) a4,h⟩) (kc (CL mx) run lp (apQ mx) ⟨lN v0 (.int 9223372036854775807 0) a4,h⟩ (fun s=>kc (CL mx) run lp (ape mx) s κn κx) κx)))))):=by kernel_rfl
theorem ahj:kc (CL mx) run lp (apQ mx) ⟨lN v0 v2 G,h⟩ κn κx=aM v0 h (fun a0 h=>aj 17 a0 h (fun a1 h=>ao a1 h (fun a2 h=>aM v0 h (fun a3 h=>aj 17 a3 h (fun a4 h=>ao a4 h (fun a5 h=>bG a5 h (fun a6 h=>arith jC a6 (.int 9223372036854775807 1) h (fun a7 h=>bM 1 a2 a7 h (fun a8 h=>ao a8 h (fun a9 h=>κn ⟨lN v0 a9 G,h⟩)))))))))):=(cA (C:=CL mx) (ops:=opsOf (cAt [1,1,0] (bS (CL mx) 202))) (ps:=[0,2,8]) (by kernel_rfl) (by kernel_rfl) _ _ _).trans (by kernel_rfl)
theorem ahW:kc (CL mx) run lp (ape mx) ⟨lN v0 v2 G,h⟩ κn κx=κx .ret ⟨lN v0 v2 G,h⟩:=by kernel_rfl
theorem akZ:kcE (CL mx) [.tmp 2] ⟨lN v0 v2 G,h⟩=some (.vh v2 h):=(bW _ _ _).trans (by kernel_rfl)
theorem ark:dz (CL mx) 202=some ⟨adl mx,[0,2,8],21,[.tmp 2]⟩:=by kernel_rfl
end
theorem aj3 (mx:Int) (run:Run) (lp:Lp) (x0:AV) (h:AH):dk (CL mx) run lp 202 [x0] h=vhO (kc (CL mx) run lp (adl mx) ⟨lN x0 .bot .bot,h⟩ (kcE (CL mx) [.tmp 2]) (kcQ (CL mx) [.tmp 2])):=(bV (by kernel_rfl) (ark mx) (by kernel_rfl)).trans (by kernel_rfl)
def awa:=Du @ajn (Du @ahj (Du @ahW (@akZ)))
def cS (v0 v1 E F D:AV):Tm:=(.nd 3 (.nd 1 (.lf 0 v0) (.lf 1 v1)) (.nd 4 (.lf 3 E) (.nd 22 (.lf 4 F) (.lf 22 D))))
def ad9 (mx:Int):K:=kAt [] (kOf (CL mx) 194)
def apV (mx:Int):K:=kAt [1,0] (kOf (CL mx) 194)
def adv (mx:Int):K:=kAt [1,1] (kOf (CL mx) 194)
def apu (mx:Int):K:=kAt [1,0,0,0] (kOf (CL mx) 194)
def apc (mx:Int):K:=kAt [1,0,0,1] (kOf (CL mx) 194)
def aep (mx:Int):K:=kAt [1,1,1] (kOf (CL mx) 194)
def am7 (mx:Int):K:=kAt [1,0,0,1,1,0] (kOf (CL mx) 194)
def ajT (mx:Int):K:=kAt [1,0,0,1,1,1] (kOf (CL mx) 194)
section
set_option maxRecDepth 100000
variable (mx:Int) (run:Run) (lp:Lp) (κn:Kt) (κx:Ex→Kt) (h:AH) (v0 v1 E F D:AV)
theorem ahk:kc (CL mx) run lp (ad9 mx) ⟨cS v0 v1 E F D,h⟩ κn κx=fQ 68 v1 h (fun a0 h=>kc (CL mx) run lp (apV mx) ⟨cS v0 v1 a0 F D,h⟩ (fun s=>kc (CL mx) run lp (adv mx) s κn κx) κx):=by kernel_rfl
theorem rX:kc (CL mx) run lp (apV mx) ⟨cS v0 v1 E F D,h⟩ κn κx=kc (CL mx) run lp (apu mx) ⟨cS v0 v1 E F D,h⟩ (fun s=>kc (CL mx) run lp (apc mx) s κn (kcO 0 κn κx)) (kcO 0 κn κx):=by kernel_rfl
theorem aiF:kc (CL mx) run lp (adv mx) ⟨cS v0 v1 E F D,h⟩ κn κx=aM v0 h (fun a0 h=>aj 12 a0 h (fun a1 h=>ao a1 h (fun a2 h=>arith cg a2 (.int 9223372036854775807 1) h (fun a3 h=>aM v0 h (fun a4 h=>aj 12 a4 h (fun a5 h=>bQ a5 a3 h (fun a6 h=>kc (CL mx) run lp (aep mx) ⟨cS v0 v1 E F D,h⟩ κn κx))))))):=by kernel_rfl
theorem rF:kc (CL mx) run lp (apu mx) ⟨cS v0 v1 E F D,h⟩ κn κx=aM v0 h (fun a0 h=>aj 16 a0 h (fun a1 h=>ao a1 h (fun a2 h=>bG a2 h (fun a3 h=>aM v0 h (fun a4 h=>aj 7 a4 h (fun a5 h=>aj 1 a5 h (fun a6 h=>ao a6 h (fun a7 h=>cmp igt a3 a7 h (fun a8 h=>κn ⟨cS v0 v1 E a8 D,h⟩))))))))):=(cA (C:=CL mx) (ops:=opsOf (cAt [1,0,0,0] (bS (CL mx) 194))) (ps:=[0,1,3,4,22]) (by kernel_rfl) (by kernel_rfl) _ _ _).trans (by kernel_rfl)
theorem rE:kc (CL mx) run lp (apc mx) ⟨cS v0 v1 E F D,h⟩ κn κx=bJ F (aM v0 h (fun a0 h=>aj 10 a0 h (fun a1 h=>ao a1 h (fun a2 h=>aP (fun a3 h=>κn ⟨cS v0 v1 E F D,h⟩) (aH (CL mx) run 138 [v0,(.int 9223372036854775807 218),a2] h))))) (kc (CL mx) run lp (am7 mx) ⟨cS v0 v1 E F D,h⟩ (fun s=>kc (CL mx) run lp (ajT mx) s κn κx) κx):=by kernel_rfl
theorem ag7:kc (CL mx) run lp (aep mx) ⟨cS v0 v1 E F D,h⟩ κn κx=kc2 (fun κ=>aM v0 h (fun a0 h=>aj 16 a0 h (fun a1 h=>ao a1 h (fun a2 h=>aF 4 E h (fun a3 h=>bG a2 h (fun a4 h=>fA 4 1 [.int 18446744073709551615 0,.bool false,.aa,.aa] [(0,(.agg [.int 18446744073709551615 0,.bool false,.aa,.aa]))] h (fun a5 h=>gg 68 4 64 a2 a5 h (fun a6 h1=>bq (Nat.ble (ag h) (ag h1)) ((fun h=>bM 4 a6 a4 h (fun a7 h=>ay 4 a7 a3 h (fun a8 h1=>bq (Nat.ble (ag h) (ag h1)) ((fun h=>aM v0 h (fun a9 h1=>bq (AV.lt (ag h) a9) ((fun h=>aj 16 a9 h (fun a10 h1=>bq (AV.lt (ag h) a10) ((fun h=>bQ a10 a6 h (fun a11 h1=>bq (Nat.ble (ag h) (ag h1)) ((fun h=>κ ⟨cS v0 v1 E F D,h⟩) h1) none)) h1) none)) h1) none)) h1) none))) h1) none)))))))) (fun κ=>aM v0 h (fun a0 h=>aj 16 a0 h (fun a1 h=>ao a1 h (fun a2 h=>aF 4 E h (fun a3 h=>bG a2 h (fun a4 h=>fA 4 1 [.int 18446744073709551615 0,.bool false,.aa,.aa] [(0,(.agg [.int 18446744073709551615 0,.bool false,.aa,.aa]))] h (fun a5 h=>gg 68 4 64 a2 a5 h (fun a6 h1=>bq (Nat.ble (ag h) (ag h1)) ((fun h=>bM 4 a6 a4 h (fun a7 h1=>bq (AV.lt (ag h) a7) ((fun h=>aM v0 h (fun a8 h=>aj 16 a8 h (fun a9 h=>bQ a9 a6 h (fun a10 h1=>bq (Nat.ble (ag h) (ag h1)) ((fun h=>ay 4 a7 a3 h (fun a11 h1=>bq (Nat.ble (ag h) (ag h1)) ((fun h=>κ ⟨cS v0 v1 E F D,h⟩) h1) none)) h1) none)))) h1) none)) h1) none)))))))) κn:=(xx (C:=CL mx) (ops1:=dR (opsOf (cAt [1,1,1] (bS (CL mx) 194))) 9 12) (ops2:=dU (opsOf (cAt [1,1,1] (bS (CL mx) 194))) 9 12) (ps:=[0,1,3,4,22]) (by kernel_rfl) (by kernel_rfl) (by kernel_rfl) _ _ _).trans (by kernel_rfl)
theorem wY:kc (CL mx) run lp (am7 mx) ⟨cS v0 v1 E F D,h⟩ κn κx=aM v0 h (fun a0 h=>aj 12 a0 h (fun a1 h=>ao a1 h (fun a2 h=>aM v0 h (fun a3 h=>aj 7 a3 h (fun a4 h=>aj 2 a4 h (fun a5 h=>ao a5 h (fun a6 h=>cmp ige a2 a6 h (fun a7 h=>κn ⟨cS v0 v1 E F a7,h⟩)))))))):=(cA (C:=CL mx) (ops:=opsOf (cAt [1,0,0,1,1,0] (bS (CL mx) 194))) (ps:=[0,1,3,4,22]) (by kernel_rfl) (by kernel_rfl) _ _ _).trans (by kernel_rfl)
theorem xA:kc (CL mx) run lp (ajT mx) ⟨cS v0 v1 E F D,h⟩ κn κx=bJ D (aM v0 h (fun a0 h=>aj 10 a0 h (fun a1 h=>ao a1 h (fun a2 h=>aP (fun a3 h=>κn ⟨cS v0 v1 E F D,h⟩) (aH (CL mx) run 138 [v0,(.int 9223372036854775807 219),a2] h))))) (κn ⟨cS v0 v1 E F D,h⟩):=by kernel_rfl
theorem uE:kcE (CL mx) [] ⟨cS v0 v1 E F D,h⟩=some (.vh (.tup []) h):=(bW _ _ _).trans (by kernel_rfl)
theorem arM:dz (CL mx) 194=some ⟨ad9 mx,[0,1,3,4,22],57,[]⟩:=by kernel_rfl
end
theorem aj0 (mx:Int) (run:Run) (lp:Lp) (x0 x1:AV) (h:AH):dk (CL mx) run lp 194 [x0,x1] h=vhO (kc (CL mx) run lp (ad9 mx) ⟨cS x0 x1 .bot .bot .bot,h⟩ (kcE (CL mx) []) (kcQ (CL mx) [])):=(bV (by kernel_rfl) (arM mx) (by kernel_rfl)).trans (by kernel_rfl)
def lT (v0 v2 E:AV):Tm:=(.nd 2 (.lf 0 v0) (.nd 3 (.lf 2 v2) (.lf 3 E)))
def adb (mx:Int):K:=kAt [] (kOf (CL mx) 195)
def alT (mx:Int):K:=kAt [1,1,0] (kOf (CL mx) 195)
def aku (mx:Int):K:=kAt [1,1,1] (kOf (CL mx) 195)
section
set_option maxRecDepth 100000
variable (mx:Int) (run:Run) (lp:Lp) (κn:Kt) (κx:Ex→Kt) (h:AH) (v0 v2 E:AV)
theorem ahJ:kc (CL mx) run lp (adb mx) ⟨lT v0 v2 E,h⟩ κn κx=aM v0 h (fun a0 h=>aj 16 a0 h (fun a1 h=>ao a1 h (fun a2 h=>bG a2 h (fun a3 h=>arith jC a3 (.int 9223372036854775807 1) h (fun a4 h=>aM v0 h (fun a5 h=>aj 16 a5 h (fun a6 h=>ao a6 h (fun a7 h=>arith jC a4 (.int 9223372036854775807 1) h (fun a8 h=>bM 4 a7 a8 h (fun a9 h=>kc (CL mx) run lp (alT mx) ⟨lT v0 a4 a9,h⟩ (fun s=>kc (CL mx) run lp (aku mx) s κn κx) κx)))))))))):=by kernel_rfl
theorem ahx:kc (CL mx) run lp (alT mx) ⟨lT v0 v2 E,h⟩ κn κx=kc2 (fun κ=>aM E h (fun a0 h=>aj 3 a0 h (fun a1 h=>ao a1 h (fun a2 h=>aM v0 h (fun a3 h=>aj 16 a3 h (fun a4 h=>ao a4 h (fun a5 h=>bM 4 a5 v2 h (fun a6 h=>aF 4 a6 h (fun a7 h=>bG a2 h (fun a8 h=>fA 4 1 [.int 18446744073709551615 0,.bool false,.aa,.aa] [(0,(.agg [.int 18446744073709551615 0,.bool false,.aa,.aa]))] h (fun a9 h=>gg 68 4 64 a2 a9 h (fun a10 h1=>bq (Nat.ble (ag h) (ag h1)) ((fun h=>bM 4 a10 a8 h (fun a11 h=>ay 4 a11 a7 h (fun a12 h1=>bq (Nat.ble (ag h) (ag h1)) ((fun h=>aM E h (fun a13 h1=>bq (AV.lt (ag h) a13) ((fun h=>aj 3 a13 h (fun a14 h1=>bq (AV.lt (ag h) a14) ((fun h=>bQ a14 a10 h (fun a15 h1=>bq (Nat.ble (ag h) (ag h1)) ((fun h=>κ ⟨lT v0 v2 E,h⟩) h1) none)) h1) none)) h1) none)) h1) none))) h1) none)))))))))))) (fun κ=>aM E h (fun a0 h=>aj 3 a0 h (fun a1 h=>ao a1 h (fun a2 h=>aM v0 h (fun a3 h=>aj 16 a3 h (fun a4 h=>ao a4 h (fun a5 h=>bM 4 a5 v2 h (fun a6 h=>aF 4 a6 h (fun a7 h=>bG a2 h (fun a8 h=>fA 4 1 [.int 18446744073709551615 0,.bool false,.aa,.aa] [(0,(.agg [.int 18446744073709551615 0,.bool false,.aa,.aa]))] h (fun a9 h=>gg 68 4 64 a2 a9 h (fun a10 h1=>bq (Nat.ble (ag h) (ag h1)) ((fun h=>bM 4 a10 a8 h (fun a11 h1=>bq (AV.lt (ag h) a11) ((fun h=>aM E h (fun a12 h=>aj 3 a12 h (fun a13 h=>bQ a13 a10 h (fun a14 h1=>bq (Nat.ble (ag h) (ag h1)) ((fun h=>ay 4 a11 a7 h (fun a15 h1=>bq (Nat.ble (ag h) (ag h1)) ((fun h=>κ ⟨lT v0 v2 E,h⟩) h1) none)) h1) none)))) h1) none)) h1) none)))))))))))) κn:=(xx (C:=CL mx) (ops1:=dR (opsOf (cAt [1,1,0] (bS (CL mx) 195))) 15 18) (ops2:=dU (opsOf (cAt [1,1,0] (bS (CL mx) 195))) 15 18) (ps:=[0,2,3]) (by kernel_rfl) (by kernel_rfl) (by kernel_rfl) _ _ _).trans (by kernel_rfl)
theorem ai1:kc (CL mx) run lp (aku mx) ⟨lT v0 v2 E,h⟩ κn κx=aM v0 h (fun a0 h=>aj 16 a0 h (fun a1 h=>ao a1 h (fun a2 h=>slS 4 a2 none (some v2) none h (fun a3 h=>aM v0 h (fun a4 h=>aj 16 a4 h (fun a5 h=>bQ a5 a3 h (fun a6 h=>κn ⟨lT v0 v2 E,h⟩))))))):=by kernel_rfl
theorem akH:kcE (CL mx) [] ⟨lT v0 v2 E,h⟩=some (.vh (.tup []) h):=(bW _ _ _).trans (by kernel_rfl)
theorem aql:dz (CL mx) 195=some ⟨adb mx,[0,2,3],43,[]⟩:=by kernel_rfl
end
theorem anP (mx:Int) (run:Run) (lp:Lp) (x0:AV) (h:AH):dk (CL mx) run lp 195 [x0] h=vhO (kc (CL mx) run lp (adb mx) ⟨lT x0 .bot .bot,h⟩ (kcE (CL mx) []) (kcQ (CL mx) [])):=(bV (by kernel_rfl) (aql mx) (by kernel_rfl)).trans (by kernel_rfl)
def np (v0 v1 E:AV):Tm:=(.nd 1 (.lf 0 v0) (.nd 3 (.lf 1 v1) (.lf 3 E)))
def aes (mx:Int):K:=kAt [] (kOf (CL mx) 199)
def aop (mx:Int):K:=kAt [1,0] (kOf (CL mx) 199)
def akL (mx:Int):K:=kAt [1,1] (kOf (CL mx) 199)
section
set_option maxRecDepth 100000
variable (mx:Int) (run:Run) (lp:Lp) (κn:Kt) (κx:Ex→Kt) (h:AH) (v0 v1 E:AV)
theorem ah7:kc (CL mx) run lp (aes mx) ⟨np v0 v1 E,h⟩ κn κx=fQ 68 v1 h (fun a0 h=>kc (CL mx) run lp (aop mx) ⟨np v0 v1 a0,h⟩ (fun s=>kc (CL mx) run lp (akL mx) s κn κx) κx):=by kernel_rfl
theorem ahe:kc (CL mx) run lp (aop mx) ⟨np v0 v1 E,h⟩ κn κx=aM v0 h (fun a0 h=>aj 16 a0 h (fun a1 h=>ao a1 h (fun a2 h=>aM v0 h (fun a3 h=>aj 16 a3 h (fun a4 h=>ao a4 h (fun a5 h=>bG a5 h (fun a6 h=>arith jC a6 (.int 9223372036854775807 1) h (fun a7 h=>aF 4 E h (fun a8 h=>bM 4 a2 a7 h (fun a9 h=>ay 4 a9 a8 h (fun a10 h1=>bq (Nat.ble (ag h) (ag h1)) ((fun h=>κn ⟨np v0 v1 E,h⟩) h1) none))))))))))):=(cA (C:=CL mx) (ops:=opsOf (cAt [1,0] (bS (CL mx) 199))) (ps:=[0,1,3]) (by kernel_rfl) (by kernel_rfl) _ _ _).trans (by kernel_rfl)
theorem ajw:kc (CL mx) run lp (akL mx) ⟨np v0 v1 E,h⟩ κn κx=aP (fun a0 h=>κn ⟨np v0 v1 E,h⟩) (aH (CL mx) run 195 [v0] h):=by kernel_rfl
theorem al8:kcE (CL mx) [] ⟨np v0 v1 E,h⟩=some (.vh (.tup []) h):=(bW _ _ _).trans (by kernel_rfl)
theorem aqF:dz (CL mx) 199=some ⟨aes mx,[0,1,3],18,[]⟩:=by kernel_rfl
end
theorem apS (mx:Int) (run:Run) (lp:Lp) (x0 x1:AV) (h:AH):dk (CL mx) run lp 199 [x0,x1] h=vhO (kc (CL mx) run lp (aes mx) ⟨np x0 x1 .bot,h⟩ (kcE (CL mx) []) (kcQ (CL mx) [])):=(bV (by kernel_rfl) (aqF mx) (by kernel_rfl)).trans (by kernel_rfl)
def cw (v0 v1 v2 L v7 G B v47 l:AV):Tm:=(.nd 7 (.nd 2 (.nd 1 (.lf 0 v0) (.lf 1 v1)) (.nd 6 (.lf 2 v2) (.lf 6 L))) (.nd 15 (.nd 8 (.lf 7 v7) (.lf 8 G)) (.nd 47 (.lf 15 B) (.nd 58 (.lf 47 v47) (.lf 58 l)))))
def acR (mx:Int):K:=kAt [] (kOf (CL mx) 200)
def al7 (mx:Int):K:=kAt [1,1,0] (kOf (CL mx) 200)
def ajU (mx:Int):K:=kAt [1,1,1] (kOf (CL mx) 200)
def aj7 (mx:Int):K:=kAt [1,1,0,0] (kOf (CL mx) 200)
def akT (mx:Int):K:=kAt [1,1,0,1] (kOf (CL mx) 200)
def anh (mx:Int):K:=kAt [1,1,1,0] (kOf (CL mx) 200)
def amd (mx:Int):K:=kAt [1,1,1,1] (kOf (CL mx) 200)
def am9 (mx:Int):K:=kAt [1,1,0,1,0] (kOf (CL mx) 200)
def amD (mx:Int):K:=kAt [1,1,0,1,1] (kOf (CL mx) 200)
def akq (mx:Int):K:=kAt [1,1,0,1,1,0,0] (kOf (CL mx) 200)
def afr (mx:Int):K:=kAt [1,1,0,1,1,0,1] (kOf (CL mx) 200)
def agq (mx:Int):K:=kAt [1,1,0,1,1,0,0,0] (kOf (CL mx) 200)
def agF (mx:Int):K:=kAt [1,1,0,1,1,0,0,1] (kOf (CL mx) 200)
section
set_option maxRecDepth 100000
variable (mx:Int) (run:Run) (lp:Lp) (κn:Kt) (κx:Ex→Kt) (h:AH) (v0 v1 v2 L v7 G B v47 l:AV)
theorem agI:kc (CL mx) run lp (acR mx) ⟨cw v0 v1 v2 L v7 G B v47 l,h⟩ κn κx=aP (fun a0 h=>arith jC a0 v2 h (fun a1 h=>cvI 18446744073709551615 a1 h (fun a2 h=>cmp igt v1 a2 h (fun a3 h=>bJ a3 (aP (fun a4 h=>κx .ret ⟨cw v0 v1 v2 (.aa) v7 G a3 v47 l,h⟩) (aH (CL mx) run 138 [v0,(.int 9223372036854775807 214),v2] h)) (kc (CL mx) run lp (al7 mx) ⟨cw v0 v1 v2 (.aa) v7 G a3 v47 l,h⟩ (fun s=>kc (CL mx) run lp (ajU mx) s κn κx) κx))))) (aH (CL mx) run 202 [v0] h):=by kernel_rfl
theorem rj:kc (CL mx) run lp (al7 mx) ⟨cw v0 v1 v2 L v7 G B v47 l,h⟩ κn κx=kc (CL mx) run lp (aj7 mx) ⟨cw v0 v1 v2 L v7 G B v47 l,h⟩ (fun s=>kc (CL mx) run lp (akT mx) s κn κx) κx:=by kernel_rfl
theorem rM:kc (CL mx) run lp (ajU mx) ⟨cw v0 v1 v2 L v7 G B v47 l,h⟩ κn κx=kc (CL mx) run lp (anh mx) ⟨cw v0 v1 v2 L v7 G B v47 l,h⟩ (fun s=>kc (CL mx) run lp (amd mx) s κn κx) κx:=by kernel_rfl
theorem qX:kc (CL mx) run lp (aj7 mx) ⟨cw v0 v1 v2 L v7 G B v47 l,h⟩ κn κx=aM v0 h (fun a0 h=>aj 6 a0 h (fun a1 h=>ao a1 h (fun a2 h=>bG a2 h (fun a3 h=>aM v0 h (fun a4 h=>aj 10 a4 h (fun a5 h=>ao a5 h (fun a6 h=>arith jC a3 a6 h (fun a7 h=>κn ⟨cw v0 v1 v2 L a7 G B v47 l,h⟩)))))))):=(cA (C:=CL mx) (ops:=opsOf (cAt [1,1,0,0] (bS (CL mx) 200))) (ps:=[0,1,2,6,7,8,15,47,58]) (by kernel_rfl) (by kernel_rfl) _ _ _).trans (by kernel_rfl)
theorem qV:kc (CL mx) run lp (akT mx) ⟨cw v0 v1 v2 L v7 G B v47 l,h⟩ κn κx=kc (CL mx) run lp (am9 mx) ⟨cw v0 v1 v2 L v7 G B v47 l,h⟩ (fun s=>kc (CL mx) run lp (amD mx) s κn κx) κx:=by kernel_rfl
theorem wR:kc (CL mx) run lp (anh mx) ⟨cw v0 v1 v2 L v7 G B v47 l,h⟩ κn κx=aM v0 h (fun a0 h=>aj 6 a0 h (fun a1 h=>ao a1 h (fun a2 h=>aM v0 h (fun a3 h=>aj 10 a3 h (fun a4 h=>ao a4 h (fun a5 h=>aM v0 h (fun a6 h=>aj 10 a6 h (fun a7 h=>ao a7 h (fun a8 h=>cvI 9223372036854775807 v1 h (fun a9 h=>arith cg a8 a9 h (fun a10 h=>slS 1 a2 (some a5) (some a10) none h (fun a11 h=>gg 6 1 1 (.aa) a11 h (fun a12 h1=>bq (Nat.ble (ag h) (ag h1)) ((fun h=>κn ⟨cw v0 v1 v2 L v7 a12 B v47 l,h⟩) h1) none))))))))))))):=(cA (C:=CL mx) (ops:=opsOf (cAt [1,1,1,0] (bS (CL mx) 200))) (ps:=[0,1,2,6,7,8,15,47,58]) (by kernel_rfl) (by kernel_rfl) _ _ _).trans (by kernel_rfl)
theorem xc:kc (CL mx) run lp (amd mx) ⟨cw v0 v1 v2 L v7 G B v47 l,h⟩ κn κx=aM v0 h (fun a0 h=>aj 10 a0 h (fun a1 h=>ao a1 h (fun a2 h=>cvI 9223372036854775807 v1 h (fun a3 h=>arith cg a2 a3 h (fun a4 h=>aM v0 h (fun a5 h=>aj 10 a5 h (fun a6 h=>bQ a6 a4 h (fun a7 h=>κx .ret ⟨cw v0 v1 v2 G v7 G B v47 l,h⟩)))))))):=by kernel_rfl
theorem qY:kc (CL mx) run lp (am9 mx) ⟨cw v0 v1 v2 L v7 G B v47 l,h⟩ κn κx=cvI 18446744073709551615 v7 h (fun a0 h=>cmp igt v1 a0 h (fun a1 h=>aC a1 false (fun κ=>aW v1 h κ) h (fun a2 h=>aC a1 false (fun κ=>aW v0 h κ) h (fun a3 h=>aC a1 false (fun κ=>aM a3 h κ) h (fun a4 h=>aC a1 false (fun κ=>aj 7 a4 h κ) h (fun a5 h=>aC a1 false (fun κ=>aj 0 a5 h κ) h (fun a6 h=>aC a1 false (fun κ=>ao a6 h κ) h (fun a7 h=>aC a1 false (fun κ=>aW v0 h κ) h (fun a8 h=>aC a1 false (fun κ=>aM a8 h κ) h (fun a9 h=>aC a1 false (fun κ=>aj 10 a9 h κ) h (fun a10 h=>aC a1 false (fun κ=>ao a10 h κ) h (fun a11 h=>aC a1 false (fun κ=>arith jC a7 a11 h κ) h (fun a12 h=>aC a1 false (fun κ=>cvI 18446744073709551615 a12 h κ) h (fun a13 h=>aC a1 false (fun κ=>cmp igt a2 a13 h κ) h (fun a14 h=>fw a1 (.bool true) a14 h (fun a15 h=>κn ⟨cw v0 v1 v2 L v7 G B a15 l,h⟩)))))))))))))))):=(cA (C:=CL mx) (ops:=opsOf (cAt [1,1,0,1,0] (bS (CL mx) 200))) (ps:=[0,1,2,6,7,8,15,47,58]) (by kernel_rfl) (by kernel_rfl) _ _ _).trans (by kernel_rfl)
theorem q9:kc (CL mx) run lp (amD mx) ⟨cw v0 v1 v2 L v7 G B v47 l,h⟩ κn κx=bJ v47 (kc (CL mx) run lp (akq mx) ⟨cw v0 v1 v2 L v7 G B v47 l,h⟩ (fun s=>kc (CL mx) run lp (afr mx) s κn κx) κx) (κn ⟨cw v0 v1 v2 L v7 G B v47 l,h⟩):=by kernel_rfl
theorem aio:kc (CL mx) run lp (akq mx) ⟨cw v0 v1 v2 L v7 G B v47 l,h⟩ κn κx=kc (CL mx) run lp (agq mx) ⟨cw v0 v1 v2 L v7 G B v47 l,h⟩ (fun s=>kc (CL mx) run lp (agF mx) s κn κx) κx:=by kernel_rfl
theorem acm:kc (CL mx) run lp (afr mx) ⟨cw v0 v1 v2 L v7 G B v47 l,h⟩ κn κx=aM v0 h (fun a0 h=>aj 6 a0 h (fun a1 h=>ao a1 h (fun a2 h=>bG a2 h (fun a3 h=>aP (fun a4 h=>κx .ret ⟨cw v0 v1 v2 (.aa) v7 G B v47 l,h⟩) (aH (CL mx) run 138 [v0,(.int 9223372036854775807 10),a3] h))))):=by kernel_rfl
theorem acH:kc (CL mx) run lp (agq mx) ⟨cw v0 v1 v2 L v7 G B v47 l,h⟩ κn κx=aM v0 h (fun a0 h=>aj 7 a0 h (fun a1 h=>aj 0 a1 h (fun a2 h=>ao a2 h (fun a3 h=>aM v0 h (fun a4 h=>aj 6 a4 h (fun a5 h=>ao a5 h (fun a6 h=>bG a6 h (fun a7 h=>cmp ilt a3 a7 h (fun a8 h=>κn ⟨cw v0 v1 v2 L v7 G B v47 a8,h⟩))))))))):=(cA (C:=CL mx) (ops:=opsOf (cAt [1,1,0,1,1,0,0,0] (bS (CL mx) 200))) (ps:=[0,1,2,6,7,8,15,47,58]) (by kernel_rfl) (by kernel_rfl) _ _ _).trans (by kernel_rfl)
theorem ac7:kc (CL mx) run lp (agF mx) ⟨cw v0 v1 v2 L v7 G B v47 l,h⟩ κn κx=bJ l (aM v0 h (fun a0 h=>aj 7 a0 h (fun a1 h=>aj 0 a1 h (fun a2 h=>ao a2 h (fun a3 h=>aP (fun a4 h=>κn ⟨cw v0 v1 v2 L v7 G B v47 l,h⟩) (aH (CL mx) run 138 [v0,(.int 9223372036854775807 217),a3] h)))))) (κn ⟨cw v0 v1 v2 L v7 G B v47 l,h⟩):=by kernel_rfl
theorem qe:kcE (CL mx) [.tmp 6] ⟨cw v0 v1 v2 L v7 G B v47 l,h⟩=some (.vh L h):=(bW _ _ _).trans (by kernel_rfl)
theorem ar6:dz (CL mx) 200=some ⟨acR mx,[0,1,2,6,7,8,15,47,58],100,[.tmp 6]⟩:=by kernel_rfl
end
theorem amr (mx:Int) (run:Run) (lp:Lp) (x0 x1 x2:AV) (h:AH):dk (CL mx) run lp 200 [x0,x1,x2] h=vhO (kc (CL mx) run lp (acR mx) ⟨cw x0 x1 x2 .bot .bot .bot .bot .bot .bot,h⟩ (kcE (CL mx) [.tmp 6]) (kcQ (CL mx) [.tmp 6])):=(bV (by kernel_rfl) (ar6 mx) (by kernel_rfl)).trans (by kernel_rfl)
def eC (v0 v1 F v5 I J:AV):Tm:=(.nd 5 (.nd 1 (.lf 0 v0) (.nd 4 (.lf 1 v1) (.lf 4 F))) (.nd 12 (.lf 5 v5) (.nd 24 (.lf 12 I) (.lf 24 J))))
def ac2 (mx:Int):K:=kAt [] (kOf (CL mx) 239)
def akE (mx:Int):K:=kAt [1,0] (kOf (CL mx) 239)
def alM (mx:Int):K:=kAt [1,1] (kOf (CL mx) 239)
def anC (mx:Int):K:=kAt [1,0,0] (kOf (CL mx) 239)
def apW (mx:Int):K:=kAt [1,0,1] (kOf (CL mx) 239)
section
set_option maxRecDepth 100000
variable (mx:Int) (run:Run) (lp:Lp) (κn:Kt) (κx:Ex→Kt) (h:AH) (v0 v1 F v5 I J:AV)
theorem ahO:kc (CL mx) run lp (ac2 mx) ⟨eC v0 v1 F v5 I J,h⟩ κn κx=kc (CL mx) run lp (akE mx) ⟨eC v0 v1 (.int 255 0) v5 I J,h⟩ (fun s=>kc (CL mx) run lp (alM mx) s κn κx) κx:=by kernel_rfl
theorem ajy:kc (CL mx) run lp (akE mx) ⟨eC v0 v1 F v5 I J,h⟩ κn κx=kc (CL mx) run lp (anC mx) ⟨eC v0 v1 F v5 I J,h⟩ (fun s=>kc (CL mx) run lp (apW mx) s κn κx) κx:=by kernel_rfl
theorem ai4:kc (CL mx) run lp (alM mx) ⟨eC v0 v1 F v5 I J,h⟩ κn κx=aM v0 h (fun a0 h=>aj 10 a0 h (fun a1 h=>ao a1 h (fun a2 h=>aP (fun a3 h=>bG a3 h (fun a4 h=>cmp cD a4 (.int 9223372036854775807 0) h (fun a5 h=>bJ a5 (κx .ret ⟨eC v0 v1 (.int 255 0) a3 I a5,h⟩) (bM 1 a3 (.int 9223372036854775807 0) h (fun a6 h=>ao a6 h (fun a7 h=>κx .ret ⟨eC v0 v1 a7 a3 I a5,h⟩)))))) (aH (CL mx) run 200 [v0,(.int 18446744073709551615 1),a2] h)))):=by kernel_rfl
theorem aiU:kc (CL mx) run lp (anC mx) ⟨eC v0 v1 F v5 I J,h⟩ κn κx=kcR κn κx (dr (sRd [] h (aW v0 h kVH) fun r0=>sRd [r0.v] r0.h' (aM r0.v r0.h' kVH) fun r1=>sRd [r1.v,r0.v] r1.h' (aj 10 r1.v r1.h' kVH) fun r2=>sRd [r2.v,r1.v,r0.v] r2.h' (ao r2.v r2.h' kVH) fun r3=>sRd [r3.v,r2.v,r1.v,r0.v] r3.h' (aW v0 r3.h' kVH) fun r4=>sEf [r4.v,r3.v,r2.v,r1.v,r0.v] r4.h' (aP kVH (aH (CL mx) run 202 [r4.v] r4.h')) fun r5=>sRd [r5.v,r4.v,r3.v,r2.v,r1.v,r0.v] r5.h' (cmp cD r3.v r5.v r5.h' kVH) fun r6=>bq (and (aG r0 (OK.f (.mk (o1 aW (.tr 0))) (CL mx) run r0.σ (eC v0 v1 F v5 I J) (aN (ag r0.h) r5.h') kVH)) (and (aG r1 (OK.f (.mk (o1 aM (.st 0))) (CL mx) run r1.σ (eC v0 v1 F v5 I J) (aN (ag r1.h) r5.h') kVH)) (and (aG r2 (OK.f (.mk (o1 (aj 10) (.st 0))) (CL mx) run r2.σ (eC v0 v1 F v5 I J) (aN (ag r2.h) r5.h') kVH)) (and (aG r3 (OK.f (.mk (o1 ao (.st 0))) (CL mx) run r3.σ (eC v0 v1 F v5 I J) (aN (ag r3.h) r5.h') kVH)) (true))))) (some (.st (eC v0 v1 F v5 r6.v J) r6.h')) none)):=(eW (C:=CL mx) [1,0,0] 239 [0,1,4,5,12,24] (by kernel_rfl) _ _ _).trans (by kernel_rfl)
theorem ajo:kc (CL mx) run lp (apW mx) ⟨eC v0 v1 F v5 I J,h⟩ κn κx=bJ I (aP (fun a0 h=>κx .ret ⟨eC v0 v1 (.int 255 0) v5 I J,h⟩) (aH (CL mx) run 138 [v0,(.int 9223372036854775807 214),v1] h)) (κn ⟨eC v0 v1 F v5 I J,h⟩):=by kernel_rfl
theorem adN:bc (eC v0 v1 F v5 I J) 0=v0:=(rfl)
theorem zV:kcE (CL mx) [.tmp 4] ⟨eC v0 v1 F v5 I J,h⟩=some (.vh F h):=(bW _ _ _).trans (by kernel_rfl)
theorem ar9:dz (CL mx) 239=some ⟨ac2 mx,[0,1,4,5,12,24],28,[.tmp 4]⟩:=by kernel_rfl
end
theorem aj9 (mx:Int) (run:Run) (lp:Lp) (x0 x1:AV) (h:AH):dk (CL mx) run lp 239 [x0,x1] h=vhO (kc (CL mx) run lp (ac2 mx) ⟨eC x0 x1 .bot .bot .bot .bot,h⟩ (kcE (CL mx) [.tmp 4]) (kcQ (CL mx) [.tmp 4])):=(bV (by kernel_rfl) (ar9 mx) (by kernel_rfl)).trans (by kernel_rfl)
end
section
variable {mx:Int} {m:Nat} {K:RC} {kd:Nat→Nat} {h:AH} {p:Nat} {c:PC} {s:PR}
structure Wf (c:PC) (s:PR):Prop where
 at_:s.at_≤c.data.length
 last:s.last≤c.data.length
 parts:s.parts≤1000000000
 dep:c.depth≤1000000
 stk:s.stack.length≤100000
theorem n64 (n:Nat):N64 n= .int 9223372036854775807 (n:Int):=rfl
theorem Nx.same {n:Nat} (R:RS m K kd h p c s):Nx n m K kd h p c s h:=⟨kd,R,A9 _,fun i _ _=>⟨rfl,by assumption⟩⟩
theorem aj8 (R:RS m K kd h p c s) (f:Nat):aL (fun r h'=>r= .bool (decide (s.code=0))∧h'=h) ((rl (CL mx) (f+1)).run 136 [.pto p 0] h):=by
 refine aL.runs (n:=f) (ase mx _ _ _ _) ?_;obtain ⟨stp,y,sl,st,ct,cl,Q,hp,_⟩:=R.ex;unfold rdL at hp;have e:decide ((s.code:Int)=0)=decide (s.code=0):=by
  by_cases c:s.code=0
  ·rw [decide_eq_true c,decide_eq_true_iff];omega
  ·rw [decide_eq_false c,decide_eq_false_iff_not];omega
 simp only [sy,A7,seval,axZ,hp,n64,e];exact Ends.mk ⟨rfl,rfl⟩
theorem xy (R:RS m K kd h p c s) (f:Nat):aL (fun r h'=>r= .int 9223372036854775807 4611686018427387904∧h'=h) ((rl (CL mx) (f+1)).run 202 [.pto p 0] h):=by
 refine aL.runs (n:=f) (aj3 mx _ _ _ _) ?_;obtain ⟨stp,y,sl,st,ct,cl,Q,hp,_⟩:=R.ex;unfold rdL at hp;simp only [sy,A7,seval,awa,hp,decide_true];exact Ends.mk ⟨rfl,rfl⟩
theorem gD (R:RS m K kd h p c s) (e a:Nat) (f:Nat):aL (fun r h'=>r= .tup []∧RS m K kd h' p c (s.cd e a)∧h'.length=h.length∧ ∀i,kd i≠1→ab h' i=ab h i) ((rl (CL mx) (f+1)).run 138 [.pto p 0,.int 9223372036854775807 (e:Int),.int 9223372036854775807 (a:Int)] h):=by
 refine aL.runs (n:=f) (aps mx _ _ _ _ _ _) ?_;obtain ⟨stp,y,sl,st,ct,cl,Q,hp,o2,o3,ok,o4,o5⟩:=R.ex;have hp':=hp;unfold rdL at hp'
 by_cases c0:s.code=0
 ·have g:decide ((s.code:Int)=0)=true:=by rw [decide_eq_true_iff];omega
  simp only [sy,A7,seval,adM,hp',n64,g];refine wEq (cZ (cs:=[.int 9223372036854775807 (e:Int),.int 9223372036854775807 (a:Int)]) (by kernel_rfl)) ?_;simp only [sy,A7,seval,adM,hp',n64];refine Ends.mk ⟨rfl,?_,by simp,fun i hi=>ae (fun cc=>hi (by rw [←cc];exact R.kp)) _⟩
  have:=R.upd (s':={s with code:=e,fat:=a}) (stp':=stp) (y':=y) o2 o3 ok o4 o5
  unfold PR.cd;rw [if_pos c0];exact this
 ·have g:decide ((s.code:Int)=0)=false:=by rw [decide_eq_false_iff_not];omega
  simp only [sy,A7,seval,adM,hp',n64,g];refine Ends.mk ⟨rfl,?_,rfl,fun i _=>rfl⟩;unfold PR.cd;rw [if_neg c0];exact R
def ZT:List AV:=[.int 18446744073709551615 0,.bool false,.aa,.aa]
theorem ady (h:AH) (κ:Ka):fA 4 1 [.int 18446744073709551615 0,.bool false,.aa,.aa] [(0,.agg [.int 18446744073709551615 0,.bool false,.aa,.aa])] h κ=κ (.slo h.length 0 1 1 4 true) (h++[some (.cells ZT 0)]):=by
 have e:fA 4 1 [.int 18446744073709551615 0,.bool false,.aa,.aa] [(0,.agg [.int 18446744073709551615 0,.bool false,.aa,.aa])] h κ=κ (.slo (ag h) 0 1 1 4 true) (av h [some (.cells ZT 0)]):=by kernel_rfl
 rw [e,ah,aV]
theorem zz (h:AH):eo (h++[some (.cells ZT 0)]) 4 1 (.slo h.length 0 1 1 4 true)=some ZT:=by
 unfold eo;simp only [aD];rfl
theorem wX {Q:Option Rs→Prop} (T:Tm) (HA HB:AH) (K:Option Rs) (e:HB=HA) (q:Q K):Q (bq (ae8 ⟨T,HA⟩ ⟨T,HB⟩) K none):=by
 subst e;rw [acK];exact q
theorem OwR.push {S:Nat→Prop} {v:AV} {rows:List (List AV)} {q:List AV} (r:OwR h S 4 v rows) (hl:rows.length≤100000) (hq:q.length=4) (hp:aO q=true) (ty:Nat) {by_:Nat} (hby:by_≤1000):
 ∃(v':AV) (h1:AH) (P:AV) (b:Nat) (X:Option Blk),(∀κ:Ka,gg ty 4 by_ v (.slo h.length 0 1 1 4 true) (h++[some (.cells ZT 0)]) κ=κ v' h1)∧h.length+1≤h1.length∧(∀i,¬S i→i<h.length→ab h1 i=ab h i)∧
  (∀(h':AH) (κ:Ka),bM 4 v' (.int 9223372036854775807 (rows.length:Int)) h' κ=κ P h')∧P.lt (ag h1)=true∧v'.plain=true∧((S b∧b<h.length)∨b=h.length+1)∧b<h1.length∧
  (∀κ:Ka,ay 4 P (.agg q) h1 κ=κ (.tup []) (h1.set b X))∧(∀(i:Nat) (Y:Option Blk),i≠b→ ∀κ:Ka,ay 4 P (.agg q) (h1.set i Y) κ=κ (.tup []) ((h1.set i Y).set b X))∧
  ∀h',ab h' b=X→OwR h' (fun i=>(S i∧i<h.length)∨i=h.length+1) 4 v' (rows++[q]):=by
 have r2:OwR (h++[some (Blk.cells ZT 0)]) (fun b=>S b∧b<h.length) 4 v rows:=r.mono fun b hb hs=>⟨⟨hs,hb⟩,ak hb _⟩
 obtain ⟨v',h1,a1,a2,a3,a4⟩:=r2.app ty hby (by decide) (x:=.slo h.length 0 1 1 4 true) (q:=ZT) rfl (zz h) rfl rfl hl;have hlen:(h++[some (Blk.cells ZT 0)]).length=h.length+1:=by simp
 rw [hlen] at a2 a3 a4;obtain ⟨hr,⟨c,_⟩|⟨b,cap,e,junk,y,hs,o⟩⟩:=a2
 ·simp at c
 ·have hz:(rows++[ZT])[rows.length]? =some ZT:=by simp
  have el:=o.el hr hz;obtain ⟨st,o'⟩:=o.stG hr hz hq hp;have hset:(rows++[ZT]).set rows.length q=rows++[q]:=by rw [mI]
  rw [hset] at st o';have hr': ∀r∈rows++[q],r.length=4:=fun x hx=>by
   rcases Cd.1 hx with hx|hx
   ·exact r.1 x hx
   ·obtain rfl:x=q:=by simpa using hx
    exact hq
  refine ⟨v',h1,.pto b (rows.length*4),b,some (Blk.cells ((rows++[q]).flatten++junk) y),a1,a3,fun i hi hl=>?_,fun h' κ=>el.idx _ h' κ,by rw [fE,ah];exact decide_eq_true o.lt,by rw [o.val];rfl,hs,o.lt,st,fun i Y hi κ=>?_,fun h' hb=>⟨hr',.inr ⟨b,cap,e,junk,y,hs,?_⟩⟩⟩
  ·rw [a4 i (fun cc=>hi cc.1) (by omega),ak hl]
  ·have o2:OwB (h1.set i Y) 4 v' (rows++[ZT]) b cap e junk y:=⟨o.val,by rw [ae hi];exact o.blk,o.fit,o.len⟩
   obtain ⟨st2,_⟩:=o2.stG hr hz hq hp;rw [hset] at st2;exact st2 κ
  ·exact ⟨o'.val,hb,o'.fit,o'.len⟩
theorem ajZ {Q:Option Rs→Prop} {κn:Kt} {κx:Ex→Kt} {run:Run} {lp:Lp} {v1 E F D:AV} (R:RS m K kd h p c s) (hs:s.stack.length≤100000) (hz: ∀κ:Ka,aF 4 E h κ=κ (.agg ZT) h)
 (k: ∀h',Nx h.length m K kd h p c {s with stack:=.nd 0 false [] []::s.stack} h'→Q (κn ⟨cS (.pto p 0) v1 E F D,h'⟩)):
 Q (kc (CL mx) run lp (aep mx) ⟨cS (.pto p 0) v1 E F D,h⟩ κn κx):=by
 obtain ⟨stp,y,sl,st,ct,cl,QQ,hp,o2,o3,ok,o4,o5⟩:=R.ex;have hp':=hp;unfold rdL at hp';have hpl:=aJ hp;have hQ:QQ.reverse.length≤100000:=by rw [Cj,ok.len];exact hs
 obtain ⟨v',h1,P,b,X,a1,a2,a3,a4,a5,a6,a7,a8,a9,a10,a11⟩:=o3.push hQ (q:=ZT) rfl rfl (67+1) (by_:=64) (by decide);have hpb:p≠b:=fun cc=>by
  rcases a7 with ⟨a7,_⟩|a7
  ·rw [←cc,R.kp] at a7;cases a7
  ·omega
 have hp1:ab h1 p=some (.cells (rdL K c s stp sl st ct cl) y):=by rw [a3 p (by rw [R.kp];decide) hpl];exact hp
 have hp2:ab (h1.set b X) p=some (.cells (rdL K c s stp sl st ct cl) y):=by rw [ae (Ne.symm hpb)];exact hp1
 have hp0:ab (h++[some (.cells ZT 0)]) p=some (.cells (rdL K c s stp sl st ct cl) y):=by rw [ak hpl];exact hp
 unfold rdL at hp1 hp2 hp0;have len3:=fun (h':AH) (κ:Ka)=>o3.bG h' κ
 have ble1:Nat.ble (ag (h++[some (.cells ZT 0)])) (ag h1)=true:=by rw [cq,ah,ah];simpa using a2
 have ble2: ∀(i:Nat) (x:Option Blk) (y:AH),Nat.ble (ag y) (ag (y.set i x))=true:=fun i x y=>by rw [cq,ah,ah];simp
 have lt1: ∀j,AV.lt (ag (h1.set b X)) (.pto p j)=true:=fun j=>by rw [fE,ah,decide_eq_true_iff,Bb];omega
 simp only [sy,A7,seval,ag7,kc2,hp',hz,len3,ady,a1,ble1,a4,a9,ble2,lt1,hp2,a6,a5,hp1,a10 p _ hpb];refine wX _ _ _ _ (List.set_comm _ _ hpb) ?_;have hlen:h.length+1≤h1.length:=a2
 let kd2:Nat→Nat:=fun i=>if i<h.length then kd i else if i=h.length+1 then 3 else 0
 have k2l: ∀i,i<h.length→kd2 i=kd i:=fun i hi=>if_pos hi
 have k2n:kd2 (h.length+1)=3:=by show (if h.length+1<h.length then _ else if h.length+1=h.length+1 then 3 else 0)=3;rw [if_neg (by omega),if_pos rfl]
 have hb3:b<h.length→kd b=3:=fun c=>by
  rcases a7 with ⟨a7,_⟩|a7
  ·exact a7
  ·omega
 have fr: ∀i,i<h.length→kd i≠3→i≠p→ ∀Y,ab ((h1.set b X).set p Y) i=ab h i:=fun i hi h3 hip Y=>by
  rw [ae (Ne.symm hip),ae (fun cc=>h3 (by rw [←cc];exact hb3 (by omega))),a3 i h3 hi]
 have mm: ∀{j:Nat} {Y:Option Blk},j≠1→j≠3→ ∀b',b'<h.length→kd b'=j→kd2 b'=j∧ab ((h1.set b X).set p Y) b'=ab h b':=fun h1' h3' b' hb' e=>⟨by rw [k2l _ hb'];exact e,fr b' hb' (by rw [e];exact h3') (fun cc=>h1' (by rw [←e,cc];exact R.kp)) _⟩
 have hml:=R.ml;refine k _ ⟨kd2,R.make (stp':=stp) (y':=y) (sl:=sl) (st:=v') (ct:=ct) (cl:=cl) (Q:=ZT::QQ) (by rw [k2l p hpl];exact R.kp) (fun i hi=>⟨by rw [k2l i (by omega)];exact R.lo i hi,fr i (by omega) (by rw [R.lo i hi];decide) (Ne.symm (R.iV (R.lo i hi))) _⟩) (by rw [Bb,Bb];omega) (aq (by rw [Bb];omega) _)
  (o2.mono (mm (by decide) (by decide))) ?_ ?_ (o4.mono (mm (by decide) (by decide))) (o5.mono (mm (by decide) (by decide))),by rw [Bb,Bb];omega,fun i hi h0=>⟨fr i hi (by rw [h0];decide) (Ne.symm (R.iV h0)) _,by rw [k2l i hi];exact h0⟩⟩
 ·rw [Cf]
  refine (a11 _ (by rw [ae hpb,aq a8])).mono fun b' hb' hs'=>⟨?_,rfl⟩
  rcases hs' with ⟨hs',c⟩|rfl
  ·rw [k2l b' c];exact hs'
  ·exact k2n
 ·refine ⟨?_,ok.mono fun b' hb' h6 _=>⟨k2l b' hb',fr b' hb' (by omega) (fun cc=>by rw [cc,R.kp] at h6;omega) _⟩⟩
  show eX _ _ ZT (.nd 0 false [] []);unfold eX;exact ⟨.aa,.aa,rfl,.inl ⟨rfl,rfl⟩,.inl ⟨rfl,rfl⟩⟩
theorem awJ {q y:Nat} (hq:ab h q=some (.cells ZT y)) (κ:Ka):aF 4 (.pto q 0) h κ=κ (.agg ZT) h:=by
 rw [jJ,hq,aT];rfl
theorem yv {Q:Option Rs→Prop} {κn:Kt} {κx:Ex→Kt} {run:Run} {lp:Lp} {v1 F D:AV} (R:RS m K kd h p c s) (hpt:s.parts≤1000000000) (hs:s.stack.length≤100000) {q yq:Nat} (hq:ab h q=some (.cells ZT yq)) (hq0:kd q=0)
 (k: ∀h',Nx h.length m K kd h p c {s with parts:=s.parts+1,stack:=.nd 0 false [] []::s.stack} h'→Q (κn ⟨cS (.pto p 0) v1 (.pto q 0) F D,h'⟩)):
 Q (kc (CL mx) run lp (adv mx) ⟨cS (.pto p 0) v1 (.pto q 0) F D,h⟩ κn κx):=by
 obtain ⟨stp,y,sl,st,ct,cl,QQ,hp,o2,o3,ok,o4,o5⟩:=R.ex;have hp':=hp;unfold rdL at hp';have w:aQ 9223372036854775807 ((s.parts:Int)+1)=((s.parts+1:Nat):Int):=by rw [bp (by omega) (by omega)];simp
 simp only [sy,A7,seval,aiF,hp',n64,w];refine ajZ (R.upd (s':={s with parts:=s.parts+1}) (stp':=stp) (y':=y) o2 o3 ok o4 o5) hs (fun κ=>awJ (y:=yq) (by rw [ae (R.iV hq0)];exact hq) κ) fun h' nx=>?_
 obtain ⟨kd',R',l',f'⟩:=nx;refine k h' ⟨kd',R',by rw [Bb] at l';exact l',fun i hi h0=>?_⟩;obtain ⟨e1,e2⟩:=f' i (by rw [Bb];exact hi) h0;exact ⟨by rw [e1,ae (R.iV h0)],e2⟩
theorem jR (s:PR) (e a:Nat):(s.cd e a).stack=s.stack∧(s.cd e a).parts=s.parts:=by
 unfold PR.cd
 split<;>exact ⟨rfl,rfl⟩
theorem kF (R:RS m K kd h p c s) (W:Wf c s) (f:Nat):aL (fun r h'=>r= .tup []∧Nx h.length m K kd h p c (s.open_ c) h') ((rl (CL mx) (f+2)).run 194 [.pto p 0,.agg [.int 18446744073709551615 0,.bool false,.aa,.aa]] h):=by
 refine aL.runs (n:=f+1) (aj0 mx _ _ _ _ _) ?_;have hz:=aD h (some (Blk.cells ZT (67+1)));have R1:=R.grow (h':=h++[some (Blk.cells ZT (67+1))]) (by simp) (fun i hi=>ak hi _);have bx: ∀κ:Ka,fQ (67+1) (.agg [.int 18446744073709551615 0,.bool false,.aa,.aa]) h κ=κ (.pto h.length 0) (h++[some (Blk.cells ZT (67+1))]):=fun κ=>by rw [dK];rfl
 have fz: ∀i,i<h.length→ab (h++[some (Blk.cells ZT (67+1))]) i=ab h i:=fun i hi=>ak hi _
 have hl1:(h++[some (Blk.cells ZT (67+1))]).length=h.length+1:=by simp
 have k0:dF kd h.length 0 h.length=0:=iY (A9 _);have fin: ∀{s':PR} {h2 h':AH},h2.length=h.length+1→(∀i,dF kd h.length 0 i≠1→ab h2 i=ab (h++[some (Blk.cells ZT (67+1))]) i)→Nx h2.length m K (dF kd h.length 0) h2 p c s' h'→Nx h.length m K kd h p c s' h':=fun hl hf nx=>by
  obtain ⟨kd',R',l',f'⟩:=nx;refine ⟨kd',R',by omega,fun i hi h0=>?_⟩;have e0:dF kd h.length 0 i=0:=by rw [cF hi];exact h0
  obtain ⟨e1,e2⟩:=f' i (by omega) e0;exact ⟨by rw [e1,hf i (by rw [e0];decide),fz i hi],e2⟩
 refine wEq (ahk ..) ?_;refine wEq (bx _) ?_;obtain ⟨stp,y,sl,st,ct,cl,QQ,hp,o2,o3,ok,o4,o5⟩:=R1.ex
 generalize hH:h++[some (Blk.cells ZT (67+1))]=h1 at*
 have hp':=hp;unfold rdL at hp';have l3:=fun h' κ=>o3.bG h' κ
 rw [Cj,ok.len] at l3;have W':=W;obtain ⟨w1,w2,w3,w4,w5⟩:=W'
 by_cases d:c.depth<s.stack.length
 ·have g:decide ((c.depth:Int)<(s.stack.length:Int))=true:=by rw [decide_eq_true_iff];omega
  simp only [sy,A7,seval,rX,rF,rE,hp',n64,l3,g];refine cy (gD R1 218 s.at_ f).call ?_;rintro r h2 ⟨rfl,R2,n2,f2⟩;have ws:=jR s 218 s.at_;refine yv R2 (by rw [ws.2];exact w3) (by rw [ws.1];exact w5) (q:=h.length) (by rw [f2 _ (by rw [k0];decide)];exact hz) k0 fun h' nx=>?_
  simp only [sy,A7,seval,uE];refine Ends.mk ⟨rfl,fin (by rw [n2,hl1]) f2 ?_⟩;unfold PR.open_;rw [if_pos d,←ws.1,←ws.2];exact nx
 ·have g:decide ((c.depth:Int)<(s.stack.length:Int))=false:=by rw [decide_eq_false_iff_not];omega
  by_cases d2:c.tokens≤s.parts
  ·have g2:decide ((c.tokens:Int)≤(s.parts:Int))=true:=by rw [decide_eq_true_iff];omega
   simp only [sy,A7,seval,rX,rF,rE,wY,xA,hp',n64,l3,g,g2];refine cy (gD R1 219 s.at_ f).call ?_;rintro r h2 ⟨rfl,R2,n2,f2⟩;have ws:=jR s 219 s.at_;refine yv R2 (by rw [ws.2];exact w3) (by rw [ws.1];exact w5) (q:=h.length) (by rw [f2 _ (by rw [k0];decide)];exact hz) k0 fun h' nx=>?_
   simp only [sy,A7,seval,uE];refine Ends.mk ⟨rfl,fin (by rw [n2,hl1]) f2 ?_⟩;unfold PR.open_;rw [if_neg d,if_pos d2,←ws.1,←ws.2];exact nx
  ·have g2:decide ((c.tokens:Int)≤(s.parts:Int))=false:=by rw [decide_eq_false_iff_not];omega
   simp only [sy,A7,seval,rX,rF,rE,wY,xA,hp',n64,l3,g,g2];refine yv R1 w3 w5 (q:=h.length) hz k0 fun h' nx=>?_
   simp only [sy,A7,seval,uE];refine Ends.mk ⟨rfl,fin hl1 (fun i _=>rfl) ?_⟩;unfold PR.open_;rw [if_neg d,if_neg d2];exact nx
theorem apA {S:Nat→Prop} {kv:AV} {ks:List PT} (hk:(ks=[]∧kv= .aa)∨ ∃kb e rows y,kv= .slo kb 0 ks.length ks.length 4 e∧S kb∧ab h kb=some (.cells rows.flatten y)∧cH h (fun b=>S b∧b<kb) rows ks)
 (hl:ks.length≤100000) {q:List AV} (hq:q.length=4) (hp:aO q=true) (ty:Nat) {by_:Nat} (hby:by_≤1000):
 ∃(h1:AH) (P:AV) (rows:List (List AV)) (y:Nat),(∀κ:Ka,gg ty 4 by_ kv (.slo h.length 0 1 1 4 true) (h++[some (.cells ZT 0)]) κ=κ (.slo (h.length+1) 0 (ks.length+1) (ks.length+1) 4 false) h1)∧h1.length=h.length+2∧(∀i,¬S i→i<h.length→ab h1 i=ab h i)∧
  (∀(h':AH) (κ:Ka),bM 4 (.slo (h.length+1) 0 (ks.length+1) (ks.length+1) 4 false) (.int 9223372036854775807 (ks.length:Int)) h' κ=κ P h')∧P.lt (ag h1)=true∧
  (∀κ:Ka,ay 4 P (.agg q) h1 κ=κ (.tup []) (h1.set (h.length+1) (some (.cells (rows++[q]).flatten y))))∧(∀(i:Nat) (Y:Option Blk),i≠h.length+1→ ∀κ:Ka,ay 4 P (.agg q) (h1.set i Y) κ=κ (.tup []) ((h1.set i Y).set (h.length+1) (some (.cells (rows++[q]).flatten y))))∧
  rows.length=ks.length∧cH h1 (fun b=>S b∧b<h.length) rows ks:=by
 have hlen:(h++[some (Blk.cells ZT 0)]).length=h.length+1:=by simp
 have go: ∀(h1:AH) (rows:List (List AV)) (y cap:Nat),(∀r∈rows++[ZT],r.length=4)→rows.length=ks.length→OwB h1 4 (.slo (h.length+1) 0 (ks.length+1) (ks.length+1) 4 false) (rows++[ZT]) (h.length+1) cap false [] y→
  (∀(h':AH) (κ:Ka),bM 4 (.slo (h.length+1) 0 (ks.length+1) (ks.length+1) 4 false) (.int 9223372036854775807 (ks.length:Int)) h' κ=κ (.pto (h.length+1) (ks.length*4)) h')∧(AV.pto (h.length+1) (ks.length*4)).lt (ag h1)=true∧
  (∀κ:Ka,ay 4 (.pto (h.length+1) (ks.length*4)) (.agg q) h1 κ=κ (.tup []) (h1.set (h.length+1) (some (.cells (rows++[q]).flatten y))))∧(∀(i:Nat) (Y:Option Blk),i≠h.length+1→ ∀κ:Ka,ay 4 (.pto (h.length+1) (ks.length*4)) (.agg q) (h1.set i Y) κ=κ (.tup []) ((h1.set i Y).set (h.length+1) (some (.cells (rows++[q]).flatten y)))):=by
  intro h1 rows y cap hr hrl o;have hz:(rows++[ZT])[ks.length]? =some ZT:=by rw [←hrl];simp
  have el:=o.el hr hz;have hset:(rows++[ZT]).set ks.length q=rows++[q]:=by rw [←hrl,mI]
  refine ⟨fun h' κ=>el.idx _ h' κ,by rw [fE,ah];exact decide_eq_true o.lt,fun κ=>?_,fun i Y hi κ=>?_⟩
  ·have:=(o.stG hr hz hq hp).1 κ
   rw [hset,Bx] at this;exact this
  ·have o2:OwB (h1.set i Y) 4 (.slo (h.length+1) 0 (ks.length+1) (ks.length+1) 4 false) (rows++[ZT]) (h.length+1) cap false [] y:=⟨o.val,by rw [ae hi];exact o.blk,o.fit,o.len⟩
   have:=(o2.stG hr hz hq hp).1 κ
   rw [hset,Bx] at this;exact this
 rcases hk with ⟨rfl,rfl⟩|⟨kb,e,rows,y,rfl,hs,hb,T⟩
 ·obtain ⟨a1,o⟩:=aug (h:=h++[some (Blk.cells ZT 0)]) (z:=4) ty hby (by decide) (x:=.slo h.length 0 1 1 4 true) (q:=ZT) rfl (zz h) rfl rfl
  rw [hlen] at a1 o;obtain ⟨g1,g2,g3,g4⟩:=go _ [] ty 1 (by simp [ZT]) rfl o;exact ⟨_,_,[],ty,a1,by simp,fun i _ hi=>by rw [ak (by omega),ak hi],g1,g2,g3,g4,rfl,by unfold cH;rfl⟩
 ·have hrows:=T.rows
  have ob:OwB (h++[some (Blk.cells ZT 0)]) 4 (.slo kb 0 ks.length ks.length 4 e) rows kb ks.length e [] y:=⟨by rw [hrows.1],by rw [ak (aJ hb),hb];simp,by omega,by rw [mb hrows.2,hrows.1];simp⟩
  have hx1:=zz h
  generalize hH:h++[some (Blk.cells ZT 0)]=H at*
  obtain ⟨v',h1,b',cap',e',junk',y',a1,o',hb',hl',hf,hx⟩:=appZ ty hby ob hrows.2 (x:=.slo h.length 0 1 1 4 true) (q:=ZT) rfl hx1 rfl rfl (by rw [hrows.1];exact hl)
  obtain ⟨rfl,rfl,rfl,rfl,n1⟩:=hx hrows.1;have hHl: ∀i,i<h.length→ab H i=ab h i:=fun i hi=>by rw [←hH];exact ak hi _
  rw [hlen] at o' hl' hf n1;have hv:v'= .slo (h.length+1) 0 (ks.length+1) (ks.length+1) 4 false:=by rw [o'.val];simp [hrows.1]
  subst hv;obtain ⟨g1,g2,g3,g4⟩:=go _ rows y' _ (fun r hr=>by
   rcases Cd.1 hr with hr|hr
   ·exact hrows.2 r hr
   ·obtain rfl:r=ZT:=by simpa using hr
    rfl) hrows.1 o'
  have hkl:=aJ hb;have f: ∀i,i≠kb→i<h.length→ab h1 i=ab h i:=fun i hi hl=>by rw [hf i hi (by omega),hHl i hl]
  exact ⟨h1,_,rows,y',a1,n1,fun i hi hl=>f i (fun cc=>hi (by rw [cc];exact hs)) hl,g1,g2,g3,g4,hrows.1,T.mono ks fun b hb' hs'=>⟨⟨hs'.1,hb'⟩,f b (by omega) hb'⟩⟩
theorem uI (R:RS m K kd h p c s) {t u:PT} {r:List PT} (hs:s.stack=t::u::r) (hlen:r.length≤90000) (hkids: ∀n b d ks,u= .nd n b d ks→ks.length≤90000∧d=[]) (f:Nat):
 aL (fun x h'=>x= .tup []∧Nx h.length m K kd h p c s.close h') ((rl (CL mx) (f+1)).run 195 [.pto p 0] h):=by
 refine aL.runs (n:=f) (anP mx _ _ _ _) ?_;obtain ⟨stp,y,sl,st,ct,cl,QQ,hp,o2,o3,ok,o4,o5⟩:=R.ex;have hpl:=aJ hp;rw [hs] at ok;obtain ⟨qt,Q1,rfl⟩: ∃q Q,QQ=q::Q:=by
  cases QQ with
  |nil=>exact ok.elim
  |cons q Q=>exact ⟨q,Q,rfl⟩
 obtain ⟨ok1,ok⟩:=ok;obtain ⟨qu,Qr,rfl⟩: ∃q Q,Q1=q::Q:=by
  cases Q1 with
  |nil=>exact ok.elim
  |cons q Q=>exact ⟨q,Q,rfl⟩
 obtain ⟨ok2,ok3⟩:=ok;have hQr:=ok3.len;have hrev:(qt::qu::Qr).reverse=Qr.reverse++[qu,qt]:=by simp
 rw [hrev] at o3;have hrl:(Qr.reverse++[qu,qt]).length=r.length+2:=by simp [hQr]
 have hgu:(Qr.reverse++[qu,qt])[r.length]? =some qu:=by rw [←hQr];simp
 have hgt:(Qr.reverse++[qu,qt])[r.length+1]? =some qt:=by rw [←hQr];simp
 cases u with
 |nd nu bu du ku=>
  obtain ⟨hku,rfl⟩:=hkids nu bu du ku rfl;unfold eX at ok2;obtain ⟨dv,kv,rfl,du2,hk⟩:=ok2;obtain rfl:dv= .aa:=by
   rcases du2 with ⟨_,e⟩|⟨c,_⟩
   ·exact e
   ·exact absurd rfl c
  have tf:=ok1.four;obtain ⟨h1,P,rows,yk,a1,a2,a3,a4,a5,a6,a7,a8,a9⟩:=apA hk (by omega) tf.1 tf.2 (67+1) (by_:=64) (by decide);have lenk: ∀(h':AH) (κ:Ka),bG kv h' κ=κ (.int 9223372036854775807 (ku.length:Int)) h':=fun h' κ=>by
   rcases hk with ⟨rfl,rfl⟩|⟨kb,e,rows,y,rfl,_⟩<;>rfl
  have o3':=o3;have len3:=fun (h':AH) (κ:Ka)=>o3.bG h' κ
  rw [hrl] at len3;obtain ⟨hr,⟨cc,_⟩|⟨bs,cap,e,junk,y3,hbs,ob⟩⟩:=o3'
  ·simp at cc
  have hbs':kd bs=3:=hbs;have elu:=ob.el hr hgu;have elt:=ob.el hr hgt;have hbp:p≠bs:=fun cc=>by rw [←cc,R.kp] at hbs';cases hbs'
  have fr1: ∀i,i<h.length→kd i≠6+r.length→ab h1 i=ab h i:=fun i hi h6=>a3 i h6 hi
  have ob1:OwB h1 4 st (Qr.reverse++[[.int 18446744073709551615 (nu:Int),.bool bu,.aa,kv],qt]) bs cap e junk y3:=⟨ob.val,by rw [fr1 bs ob.lt (by omega)];exact ob.blk,ob.fit,ob.len⟩
  have ob2: ∀X,OwB (h1.set (h.length+1) X) 4 st (Qr.reverse++[[.int 18446744073709551615 (nu:Int),.bool bu,.aa,kv],qt]) bs cap e junk y3:=fun X=>⟨ob.val,by rw [ae (by have:=ob.lt;omega)];exact ob1.blk,ob.fit,ob.len⟩
  obtain ⟨Pu,hPu⟩: ∃P,P=AV.pto bs (r.length*4):=⟨_,rfl⟩;obtain ⟨Pu3,hPu3⟩: ∃P,P=AV.pto bs (r.length*4+3):=⟨_,rfl⟩;obtain ⟨Pt,hPt⟩: ∃P,P=AV.pto bs ((r.length+1)*4):=⟨_,rfl⟩;have iu:=elu.idx;have it:=elt.idx;have lt_:=elt.ldG;have lu:=elu.ld1 3 kv rfl;rw [←hPu] at iu;rw [←hPt] at it lt_;rw [←hPu3] at lu;have mv: ∀(h:AH) (κ:Ka),aj 3 Pu h κ=κ Pu3 h:=fun h κ=>by rw [hPu,hPu3];rfl
  have nk: ∀(h:AH) (κ:Ka),aM Pu h κ=κ Pu h:=fun h κ=>by rw [hPu];rfl
  have hv:AV.plain (.slo (h.length+1) 0 (ku.length+1) (ku.length+1) 4 false)=true:=rfl;have s1:=(ob1.st1 hr hgu (j:=3) (c:=.slo (h.length+1) 0 (ku.length+1) (ku.length+1) 4 false) (by decide) hv).1;have s2:=fun X=>((ob2 X).st1 hr hgu (j:=3) (c:=.slo (h.length+1) 0 (ku.length+1) (ku.length+1) 4 false) (by decide) hv).1
  have hset:(Qr.reverse++[[.int 18446744073709551615 (nu:Int),.bool bu,.aa,kv],qt]).set r.length (List.set [.int 18446744073709551615 (nu:Int),.bool bu,.aa,kv] 3 (.slo (h.length+1) 0 (ku.length+1) (ku.length+1) 4 false))=Qr.reverse++[[.int 18446744073709551615 (nu:Int),.bool bu,.aa,.slo (h.length+1) 0 (ku.length+1) (ku.length+1) 4 false],qt]:=by
   rw [←hQr,show Qr.length=Qr.reverse.length by simp];show (Qr.reverse++[.int 18446744073709551615 (nu:Int),.bool bu,.aa,kv]::[qt]).set _ _=_;rw [mI];rfl
  have o9:=(ob2 (some (.cells (rows++[qt]).flatten yk))).st1 hr hgu (j:=3) (c:=.slo (h.length+1) 0 (ku.length+1) (ku.length+1) 4 false) (by decide) hv;rw [hset] at s1 o9;rw [←hPu3] at s1;have s2':=fun X=>s2 X
  simp only [hset] at s2';rw [←hPu3] at s2';have o9:=o9.2;have hp1:ab h1 p=some (.cells (rdL K c s stp sl st ct cl) y):=by rw [fr1 p hpl (by rw [R.kp];omega)];exact hp
  have hp':=hp;unfold rdL at hp';have bsl:=ob.lt
  generalize hXs:some (Blk.cells ((Qr.reverse++[[.int 18446744073709551615 (nu:Int),.bool bu,.aa,.slo (h.length+1) 0 (ku.length+1) (ku.length+1) 4 false],qt]).flatten++junk) y3)=Xs at*
  generalize hX:some (Blk.cells (rows++[qt]).flatten yk)=X at*
  have ble1:Nat.ble (ag (h++[some (.cells ZT 0)])) (ag h1)=true:=by rw [cq,ah,ah,a2];simp
  have ble2: ∀(i:Nat) (x:Option Blk) (y:AH),Nat.ble (ag y) (ag (y.set i x))=true:=fun i x y=>by rw [cq,ah,ah];simp
  have ltu:AV.lt (ag (h1.set (h.length+1) X)) Pu=true:=by rw [hPu,fE,ah,decide_eq_true_iff,Bb];omega
  have ltu3:AV.lt (ag (h1.set (h.length+1) X)) Pu3=true:=by rw [hPu3,fE,ah,decide_eq_true_iff,Bb];omega
  have w1:aQ 9223372036854775807 (((r.length+2:Nat):Int)-1)=((r.length+1:Nat):Int):=by rw [bp (by omega) (by omega)];simp;omega
  have w2:aQ 9223372036854775807 (((r.length+1:Nat):Int)-1)=(r.length:Int):=by rw [bp (by omega) (by omega)];simp
  have o9l:=a7 bs Xs (by omega);simp only [sy,A7,seval,ahJ,ahx,kc2,hp',len3,w1,w2,iu,nk,mv,lu,it,lt_,lenk,ady,a1,ble1,a4,a6,ble2,ltu,ltu3,s2',a5,s1,o9l];refine wX _ _ _ _ (List.set_comm _ _ (by omega)) ?_;have hml:=R.ml
  let kd2:Nat→Nat:=fun i=>if i<h.length then (if kd i=6+(r.length+1) then 6+r.length else kd i) else if i=h.length+1 then 6+r.length else 0
  have k2l: ∀i,i<h.length→kd i≠6+(r.length+1)→kd2 i=kd i:=fun i hi h6=>by
   show (if i<h.length then (if kd i=6+(r.length+1) then 6+r.length else kd i) else _)=_;rw [if_pos hi,if_neg h6]
  have k2t: ∀i,i<h.length→kd i=6+(r.length+1)→kd2 i=6+r.length:=fun i hi h6=>by
   show (if i<h.length then (if kd i=6+(r.length+1) then 6+r.length else kd i) else _)=_;rw [if_pos hi,if_pos h6]
  have k2n:kd2 (h.length+1)=6+r.length:=by
   show (if h.length+1<h.length then _ else if h.length+1=h.length+1 then 6+r.length else 0)=_;rw [if_neg (by omega),if_pos rfl]
  have hX2:(h1.set (h.length+1) X).set bs Xs=(h1.set (h.length+1) X).set bs Xs:=rfl;have fr: ∀i,i<h.length→i≠bs→kd i≠6+r.length→ab ((h1.set (h.length+1) X).set bs Xs) i=ab h i:=fun i hi hb h6=>by
   rw [ae (Ne.symm hb),ae (by omega),fr1 i hi h6]
  have hp3:ab ((h1.set (h.length+1) X).set bs Xs) p=some (.cells (rdL K c s stp sl st ct cl) y):=by rw [fr p hpl hbp (by rw [R.kp];omega)];exact hp
  have hp3':=hp3;unfold rdL at hp3';have T9:eX ((h1.set (h.length+1) X).set bs Xs) (fun b=>kd2 b=6+r.length) [.int 18446744073709551615 (nu:Int),.bool bu,.aa,.slo (h.length+1) 0 (ku.length+1) (ku.length+1) 4 false] (.nd nu bu [] (ku++[t])):=by
   have mt: ∀b,b<h.length→kd b=6+(r.length+1)→(kd2 b=6+r.length∧b<h.length+1)∧ab ((h1.set (h.length+1) X).set bs Xs) b=ab h b:=fun b hb hk'=>⟨⟨k2t b hb hk',by omega⟩,fr b hb (fun cc=>by rw [cc,hbs'] at hk';omega) (by omega)⟩
   unfold eX;refine ⟨.aa,_,rfl,.inl ⟨rfl,rfl⟩,.inr ⟨h.length+1,false,rows++[qt],yk,by simp,k2n,by rw [ae (by omega),aq (by omega),←hX],?_⟩⟩;refine cH.app (ok1.mono t mt) (a9.mono ku fun b hb hk'=>⟨⟨by rw [k2l b hk'.2 (by rw [hk'.1];omega)];exact hk'.1,by omega⟩,?_⟩);rw [ae (fun cc=>by rw [cc,hk'.1] at hbs';omega),ae (by omega)]
  have h9l:((h1.set (h.length+1) X).set bs Xs).length=h.length+2:=by rw [Bb,Bb,a2]
  have o9R:OwR ((h1.set (h.length+1) X).set bs Xs) (fun b=>kd2 b=3) 4 st ((qt::[.int 18446744073709551615 (nu:Int),.bool bu,.aa,.slo (h.length+1) 0 (ku.length+1) (ku.length+1) 4 false]::Qr).reverse):=by
   rw [show (qt::[.int 18446744073709551615 (nu:Int),.bool bu,.aa,.slo (h.length+1) 0 (ku.length+1) (ku.length+1) 4 false]::Qr).reverse=Qr.reverse++[[.int 18446744073709551615 (nu:Int),.bool bu,.aa,.slo (h.length+1) 0 (ku.length+1) (ku.length+1) 4 false],qt] by simp];refine ⟨fun x hx=>?_,.inr ⟨bs,cap,e,junk,y3,by show kd2 bs=3;rw [k2l bs bsl (by omega)];exact hbs',o9⟩⟩;rcases Cd.1 hx with hx|hx
   ·exact hr x (Cr _ hx)
   ·rcases Bv.1 hx with rfl|hx
    ·rfl
    ·exact hr x (C7 _ (Bh _ hx))
  generalize h1.set (h.length+1) X=h2 at*
  generalize h2.set bs Xs=h3 at*
  obtain ⟨v',c1,c2⟩:=o9R.cut (by decide) (by simp) (m:=r.length+1) (by simp [hQr]) 9223372036854775807;have htk:((qt::[.int 18446744073709551615 (nu:Int),.bool bu,.aa,.slo (h.length+1) 0 (ku.length+1) (ku.length+1) 4 false]::Qr).reverse).take (r.length+1)=([.int 18446744073709551615 (nu:Int),.bool bu,.aa,.slo (h.length+1) 0 (ku.length+1) (ku.length+1) 4 false]::Qr).reverse:=by
   rw [Cf,BM (by simp [hQr]),Ch (by simp [hQr])]
  rw [htk] at c2;have hp3l:=aJ hp3;simp only [sy,A7,seval,ai1,hp3',c1,c2.plain,akH];refine Ends.mk ⟨rfl,?_⟩;have mm: ∀{j:Nat} {Y:Option Blk},j≠1→j≠3→j<6→ ∀b',b'<h.length→kd b'=j→kd2 b'=j∧ab (h3.set p Y) b'=ab h b':=fun h1' h3' h6' b' hb' e=>⟨by rw [k2l _ hb' (by omega)];exact e,by rw [ae (fun cc=>h1' (by rw [←e,←cc];exact R.kp)),fr b' hb' (fun cc=>h3' (by rw [←e,cc];exact hbs')) (by omega)]⟩
  have f0: ∀i,i<h.length→kd i=0→ ∀Y,ab (h3.set p Y) i=ab h i:=fun i hi h0 Y=>by rw [ae (R.iV h0),fr i hi (fun cc=>by rw [cc,hbs'] at h0;cases h0) (by omega)]
  refine ⟨kd2,R.make (stp':=stp) (y':=y) (sl:=sl) (st:=v') (ct:=ct) (cl:=cl) (Q:=[.int 18446744073709551615 (nu:Int),.bool bu,.aa,.slo (h.length+1) 0 (ku.length+1) (ku.length+1) 4 false]::Qr) (by rw [k2l p hpl (by rw [R.kp];omega)];exact R.kp) (fun i hi=>⟨by rw [k2l i (by omega) (by rw [R.lo i hi];omega)];exact R.lo i hi,f0 i (by omega) (R.lo i hi) _⟩) (by rw [Bb,h9l];omega) (by
   rw [aq hp3l];unfold PR.close;rw [hs];rfl) ?_ ?_ ?_ ?_ ?_,by rw [Bb,h9l];omega,fun i hi h0=>⟨f0 i hi h0 _,by rw [k2l i hi (by omega)];exact h0⟩⟩
  ·unfold PR.close
   rw [hs];exact o2.mono (mm (by decide) (by decide) (by decide))
  ·exact c2.mono fun b' hb' hk'=>⟨hk',ae (fun cc=>by rw [←cc,k2l p hpl (by rw [R.kp];omega),R.kp] at hk';cases hk') _⟩
  ·unfold PR.close
   rw [hs];refine ⟨T9.mono _ fun b' hb' hk'=>⟨hk',ae (fun cc=>by rw [←cc,k2l p hpl (by rw [R.kp];omega),R.kp] at hk';omega) _⟩,ok3.mono fun b' hb' g1 g2=>⟨k2l b' hb' (by omega),?_⟩⟩;rw [ae (fun cc=>by rw [←cc,R.kp] at g1;omega),fr b' hb' (fun cc=>by rw [cc,hbs'] at g1;omega) (by omega)]
  ·unfold PR.close
   rw [hs];exact o4.mono (mm (by decide) (by decide) (by decide))
  ·unfold PR.close
   rw [hs];exact o5.mono (mm (by decide) (by decide) (by decide))
theorem rU (R:RS m K kd h p c s) {t0 u:PT} {r:List PT} (hs:s.stack=t0::u::r) (hlen:r.length≤90000) (hkids: ∀n b d ks,u= .nd n b d ks→ks.length≤90000∧d=[]) {nn:Nat} {dv:AV} {dd:List Nat} {b0 n0:Nat}
 (hd:jg h (fun b=>b=b0) dv dd) (hb0:dF kd h.length 0 b0=0) (hmn:m≤n0) (hn0:n0≤b0) (hn1:n0≤h.length) (f:Nat):
 aL (fun x h'=>x= .tup []∧Nx n0 m K kd h p c (s.leaf (.nd nn false dd [])) h') ((rl (CL mx) (f+2)).run 199 [.pto p 0,.agg [.int 18446744073709551615 (nn:Int),.bool false,dv,.aa]] h):=by
 refine aL.runs (n:=f+1) (apS mx _ _ _ _ _) ?_;have hdp:=hd.at.plain
 generalize hq:[AV.int 18446744073709551615 (nn:Int),.bool false,dv,.aa]=q
 have hql:q.length=4:=by rw [←hq];rfl
 have hqp:aO q=true:=by rw [←hq];show and true (and true (and dv.plain true))=true;rw [hdp];rfl
 have hz:=aD h (some (Blk.cells q (67+1)));have R1:=R.grow (h':=h++[some (Blk.cells q (67+1))]) (by simp) (fun i hi=>ak hi _);have bx: ∀κ:Ka,fQ (67+1) (.agg q) h κ=κ (.pto h.length 0) (h++[some (Blk.cells q (67+1))]):=fun κ=>by rw [dK];rfl
 have fz: ∀i,i<h.length→ab (h++[some (Blk.cells q (67+1))]) i=ab h i:=fun i hi=>ak hi _
 have hl1:(h++[some (Blk.cells q (67+1))]).length=h.length+1:=by simp
 have hd1:jg (h++[some (Blk.cells q (67+1))]) (fun b=>b=b0) dv dd:=hd.mono fun b hb e=>⟨e,fz b hb⟩
 refine wEq (ah7 ..) ?_;refine wEq (bx _) ?_
 generalize hH:h++[some (Blk.cells q (67+1))]=h1 at*
 obtain ⟨stp,y,sl,st,ct,cl,QQ,hp,o2,o3,ok,o4,o5⟩:=R1.ex;have hp':=hp;unfold rdL at hp';rw [hs] at ok;obtain ⟨qt,Q1,rfl⟩: ∃q Q,QQ=q::Q:=by
  cases QQ with
  |nil=>exact ok.elim
  |cons q Q=>exact ⟨q,Q,rfl⟩
 obtain ⟨ok1,ok2⟩:=ok;have hQ1:=ok2.len;have hrev:(qt::Q1).reverse=Q1.reverse++[qt]:=by simp
 rw [hrev] at o3;have hrl:(Q1.reverse++[qt]).length=r.length+2:=by simp [hQ1]
 have hgt:(Q1.reverse++[qt])[r.length+1]? =some qt:=by
  have:r.length+1=Q1.reverse.length:=by rw [Cj,hQ1];rfl
  rw [this];simp
 have len3:=fun (h':AH) (κ:Ka)=>o3.bG h' κ
 rw [hrl] at len3;obtain ⟨hr,⟨cc,_⟩|⟨bs,cap,e,junk,y3,hbs,ob⟩⟩:=o3
 ·simp at cc
 have hbs':dF kd h.length 0 bs=3:=hbs;have elt:=ob.el hr hgt;obtain ⟨Pt,hPt⟩: ∃P,P=AV.pto bs ((r.length+1)*4):=⟨_,rfl⟩;have it:=elt.idx;rw [←hPt] at it;obtain ⟨s1,o9⟩:=ob.stG hr hgt hql hqp;rw [←hPt] at s1;have hset:(Q1.reverse++[qt]).set (r.length+1) q=Q1.reverse++[q]:=by
  have:r.length+1=Q1.reverse.length:=by rw [Cj,hQ1];rfl
  rw [this,mI]
 rw [hset] at s1 o9;have bsl:=ob.lt;have w1:aQ 9223372036854775807 (((r.length+2:Nat):Int)-1)=((r.length+1:Nat):Int):=by rw [bp (by omega) (by omega)];simp;omega
 have ldz: ∀κ:Ka,aF 4 (.pto h.length 0) h1 κ=κ (.agg q) h1:=fun κ=>by
  rw [jJ,hz,aT];show bq (decide (0+4≤q.length)) (κ (.agg ((q.drop 0).take 4)) h1) none=_;rw [bK (by omega),BF,←hql,Cc]
 obtain ⟨pz,hpz⟩: ∃P,P=AV.pto h.length 0:=⟨_,rfl⟩;rw [←hpz] at ldz ⊢;have ble2: ∀(i:Nat) (x:Option Blk) (y:AH),Nat.ble (ag y) (ag (y.set i x))=true:=fun i x y=>by rw [cq,ah,ah];simp
 simp only [sy,A7,seval,ahe,ajw,hp',len3,w1,ldz,it,s1,ble2]
 let kd2:Nat→Nat:=fun i=>if i=b0 then 6+(r.length+1) else dF kd h.length 0 i
 have k2l: ∀i,dF kd h.length 0 i≠0→kd2 i=dF kd h.length 0 i:=fun i hi=>if_neg (fun cc=>hi (by rw [cc];exact hb0))
 have k2b:kd2 b0=6+(r.length+1):=if_pos rfl;have k2o: ∀i,i≠b0→kd2 i=dF kd h.length 0 i:=fun i hi=>if_neg hi
 have hpl:=aJ hp;have hbp:bs≠p:=fun cc=>by rw [cc,R1.kp] at hbs';cases hbs'
 have hml:=R.ml;have fr: ∀i,i≠bs→ ∀X,ab (h1.set bs X) i=ab h1 i:=fun i hi X=>ae (Ne.symm hi) _
 have mm: ∀{j:Nat} {X:Option Blk},j≠0→j≠3→ ∀b',b'<h1.length→dF kd h.length 0 b'=j→kd2 b'=j∧ab (h1.set bs X) b'=ab h1 b':=fun h1' h3' b' hb' e=>⟨by rw [k2l _ (by rw [e];exact h1')];exact e,fr b' (fun cc=>h3' (by rw [←e,cc];exact hbs')) _⟩
 have hbb:b0≠bs:=fun cc=>by rw [cc,hbs'] at hb0;cases hb0
 have R2:RS m K kd2 (h1.set bs (some (.cells ((Q1.reverse++[q]).flatten++junk) y3))) p c {s with stack:=.nd nn false dd []::u::r}:=by
  refine R1.make (stp':=stp) (y':=y) (sl:=sl) (st:=st) (ct:=ct) (cl:=cl) (Q:=q::Q1) (by rw [k2l p (by rw [R1.kp];decide)];exact R1.kp) (fun i hi=>?_) (by rw [Bb];exact A9 _) (by rw [fr p (Ne.symm hbp)];exact hp) (o2.mono (mm (by decide) (by decide))) ?_ ?_ (o4.mono (mm (by decide) (by decide))) (o5.mono (mm (by decide) (by decide)))
  ·have e0:=R1.lo i hi
   exact ⟨by rw [k2o i (by omega)];exact e0,fr i (fun cc=>by rw [cc,hbs'] at e0;cases e0) _⟩
  ·rw [Cf]
   refine ⟨fun x hx=>?_,.inr ⟨bs,cap,e,junk,y3,by show kd2 bs=3;rw [k2l bs (by rw [hbs'];decide)];exact hbs',o9⟩⟩
   rcases Cd.1 hx with hx|hx
   ·exact hr x (Cr _ hx)
   ·obtain rfl:x=q:=by simpa using hx
    exact hql
  ·refine ⟨?_,ok2.mono fun b' hb' g1 g2=>⟨k2l b' (by omega),fr b' (fun cc=>by rw [cc,hbs'] at g1;omega) _⟩⟩
   unfold eX;exact ⟨dv,.aa,hq.symm,hd1.mono fun b hb e=>by subst e;exact ⟨k2b,fr b hbb _⟩,.inl ⟨rfl,rfl⟩⟩
 refine cy (uI R2 (t:=.nd nn false dd []) (u:=u) (r:=r) rfl hlen hkids f).call ?_;rintro x h' ⟨rfl,kd',R',l',f'⟩;rw [Bb] at l' f';simp only [sy,A7,seval,al8];refine Ends.mk ⟨rfl,kd',?_,by omega,fun i hi h0=>?_⟩
 ·unfold PR.leaf
  rw [hs];unfold PR.close at R';exact R'
 ·have e0:dF kd h.length 0 i=0:=by rw [cF (by omega)];exact h0
  obtain ⟨e1,e2⟩:=f' i (by omega) (by rw [k2o i (by omega)];exact e0)
  exact ⟨by rw [e1,fr i (fun cc=>by rw [cc,hbs'] at e0;cases e0),fz i (by omega)],e2⟩
end
section
variable {mx:Int} {m:Nat} {K:RC} {kd:Nat→Nat} {h:AH} {p:Nat} {c:PC} {s:PR}
theorem arO (ty:Nat) {x:AV} {ds:List AV} (hx:cW h x ds) (hp:aO ds=true) (hl:ds.length≤1000000) (κ:Ka):gg ty 1 1 .aa x h κ=if ds=[] then κ .aa h else κ (.slo h.length 0 ds.length ds.length 1 false) (h++[some (.cells ds ty)]):=by
 unfold gg;rw [hx.qB,aT,hx.elems,aT,hp,lJ,ah,show Nat.mul ds.length 1=ds.length from BW _,decide_eq_true rfl];show vc ty 1 1 ds.length ds .aa h κ=_;unfold vc
 by_cases h0:ds=[]
 ·subst h0;rfl
 ·have hne: ¬ds.length=0:=fun c=>h0 (B7.1 c)
  rw [if_neg h0,lJ,decide_eq_false hne];have hr:kL 1 ds.length=true:=by
   unfold kL;rw [cq,cq,decide_eq_true (by show ds.length*1≤_;omega),decide_eq_true (by omega)];rfl
  rw [hr];show κ (.slo (ag h) 0 ds.length ds.length 1 false) (av h [some (sQ 1 ds.length ds ty)])=_;rw [ah,aV];rfl
def TkP (m:Nat) (K:RC) (kd:Nat→Nat) (h:AH) (p:Nat) (c:PC) (t:List Nat×PR) (v:AV) (h':AH):Prop:=
 ∃kd' b0,jg h' (fun b=>b=b0) v t.1∧RS m K kd' h' p c t.2∧h.length≤h'.length∧(∀i,i<h.length→kd i=0→ab h' i=ab h i∧kd' i=0)∧dF kd' h'.length 0 b0=0∧h.length≤b0
theorem rY (R:RS m K kd h p c s) (W:Wf c s) {n a:Nat} (hn:n≤18446744073709551615) (ha:a≤c.data.length) (f:Nat):
 aL (fun r h'=>TkP m K kd h p c (s.take c n a) r h') ((rl (CL mx) (f+2)).run 200 [.pto p 0,.int 18446744073709551615 (n:Int),.int 9223372036854775807 (a:Int)] h):=by
 refine aL.runs (n:=f+1) (amr mx _ _ _ _ _ _) ?_;have hlen:=R.len;have hinp:=R.inp;have wat:=W.at_;refine wEq (agI ..) ?_;refine cy (xy R f).call ?_;rintro r h' ⟨rfl,rfl⟩;have w1:aQ 9223372036854775807 ((4611686018427387904:Int)-(a:Int))=((4611686018427387904-a:Nat):Int):=by rw [bp (by omega) (by omega)];omega
 have w2:aQ 18446744073709551615 ((4611686018427387904-a:Nat):Int)=((4611686018427387904-a:Nat):Int):=gv (by omega) (by omega);have same: ∀{s':PR} {h2:AH},RS m K kd h2 p c s'→h2.length=h'.length→(∀i,kd i≠1→ab h2 i=ab h' i)→TkP m K kd h' p c ([],s') .aa h2:=fun R2 n2 f2=>
  ⟨dF kd h'.length 0,h'.length,.inl ⟨rfl,rfl⟩,by
   have:=R2.grow (h':=_) (A9 _) (fun i _=>rfl)
   rw [n2] at this;exact this,by omega,fun i hi h0=>⟨f2 i (by rw [h0];decide),by rw [cF hi];exact h0⟩,iY (by omega),A9 _⟩
 by_cases c1:4611686018427387904-a<n
 ·have g1:decide (((4611686018427387904-a:Nat):Int)<(n:Int))=true:=by rw [decide_eq_true_iff];omega
  simp only [sy,A7,seval,w1,w2,g1];refine cy (gD R 214 a f).call ?_;rintro r h2 ⟨rfl,R2,n2,f2⟩;simp only [sy,A7,seval,qe];refine Ends.mk ?_;unfold PR.take;rw [if_pos c1];exact same R2 n2 f2
 ·have g1:decide (((4611686018427387904-a:Nat):Int)<(n:Int))=false:=by rw [decide_eq_false_iff_not];omega
  obtain ⟨stp,y,sl,st,ct,cl,QQ,hp,o2,o3,ok,o4,o5⟩:=R.ex;have hp':=hp;unfold rdL at hp';have hpl:=aJ hp;have ld:=fun κ=>R.dat.at.bG h' κ
  rw [ba] at ld;have w3:aQ 9223372036854775807 ((c.data.length:Int)-(s.at_:Int))=((c.data.length-s.at_:Nat):Int):=by rw [bp (by omega) (by omega)];omega
  have w4:aQ 18446744073709551615 ((c.data.length-s.at_:Nat):Int)=((c.data.length-s.at_:Nat):Int):=gv (by omega) (by omega)
  by_cases c2:c.data.length-s.at_<n
  ·have g2:decide (((c.data.length-s.at_:Nat):Int)<(n:Int))=true:=by rw [decide_eq_true_iff];omega
   have g3:decide ((K.inp:Int)<(c.data.length:Int))=false:=by rw [decide_eq_false_iff_not];omega
   simp only [sy,A7,seval,w1,w2,g1,rj,rM,qX,qV,qY,q9,aio,acm,acH,ac7,hp',n64,ld,w3,w4,g2,g3];refine cy (gD R 10 c.data.length f).call ?_;rintro r h2 ⟨rfl,R2,n2,f2⟩;simp only [sy,A7,seval,qe];refine Ends.mk ?_;unfold PR.take;rw [if_neg c1,if_pos c2];exact same R2 n2 f2
  ·have g2:decide (((c.data.length-s.at_:Nat):Int)<(n:Int))=false:=by rw [decide_eq_false_iff_not];omega
   have w5:aQ 9223372036854775807 ((K.inp:Int)-(s.at_:Int))=((K.inp-s.at_:Nat):Int):=by rw [bp (by omega) (by omega)];omega
   have w6:aQ 18446744073709551615 ((K.inp-s.at_:Nat):Int)=((K.inp-s.at_:Nat):Int):=gv (by omega) (by omega);have g3:decide (((K.inp-s.at_:Nat):Int)<(n:Int))=false:=by rw [decide_eq_false_iff_not];omega
   have w7:aQ 9223372036854775807 (n:Int)=(n:Int):=bp (by omega) (by omega);have w8:aQ 9223372036854775807 ((s.at_:Int)+(n:Int))=((s.at_+n:Nat):Int):=by rw [bp (by omega) (by omega)];simp
   obtain ⟨v',hv,sv⟩:=R.dat.cut (l:=s.at_) (u:=s.at_+n) (by omega) (by rw [ba];omega) 9223372036854775807 9223372036854775807
   rw [BK,jY,nB] at sv;have hdl:((c.data.drop s.at_).take n).length=n:=by rw [Bq,Bi];omega
   have ap:=fun κ=>arO (h:=h') (κ:=κ) (5+1) sv (oN _) (by rw [ba,hdl];omega)
   have hT:s.take c n a=((c.data.drop s.at_).take n,{s with at_:=s.at_+n}):=by unfold PR.take;rw [if_neg c1,if_neg c2]
   have upd: ∀{hh:AH} {kk:Nat→Nat},RS m K kk hh p c s→RS m K kk hh p c s:=fun x=>x
   by_cases h0:n=0
   ·have hb0:aI ((c.data.drop s.at_).take n)=[]:=by rw [h0];rfl
    simp only [if_pos hb0] at ap;have ble:Nat.ble (ag h') (ag h')=true:=by rw [cq];simp
    simp only [sy,A7,seval,w1,w2,g1,rj,rM,qX,qV,wR,xc,qY,q9,hp',n64,ld,w3,w4,w5,w6,w7,w8,g2,g3,hv,ap,ble,qe];have R2:=(R.upd (s':={s with at_:=s.at_+n}) (stp':=stp) (y':=y) o2 o3 ok o4 o5);have R3:=R2.grow (A9 _) (fun i _=>rfl);rw [Bb] at R3;refine Ends.mk ⟨dF kd h'.length 0,h'.length,by rw [hT,h0];exact .inl ⟨rfl,rfl⟩,by rw [hT];exact R3,by rw [Bb];exact A9 _,fun i hi h0'=>⟨ae (R.iV h0') _,by rw [cF hi];exact h0'⟩,iY (by rw [Bb];exact A9 _),A9 _⟩
   ·have hb0:aI ((c.data.drop s.at_).take n)≠[]:=fun cc=>by
     have:=congrArg List.length cc
     rw [ba,hdl] at this;exact h0 this
    simp only [if_neg hb0,ba,hdl] at ap;have ble:Nat.ble (ag h') (ag (h'++[some (Blk.cells (aI ((c.data.drop s.at_).take n)) (5+1))]))=true:=by rw [cq,ah,ah];simp
    have R1:=R.grow (h':=h'++[some (Blk.cells (aI ((c.data.drop s.at_).take n)) (5+1))]) (by simp) (fun i hi=>ak hi _);have hz:=aD h' (some (Blk.cells (aI ((c.data.drop s.at_).take n)) (5+1)));have hpo:ab (h'++[some (Blk.cells (aI ((c.data.drop s.at_).take n)) (5+1))]) p=ab h' p:=ak hpl _;have fo: ∀i,i<h'.length→ab (h'++[some (Blk.cells (aI ((c.data.drop s.at_).take n)) (5+1))]) i=ab h' i:=fun i hi=>ak hi _
    have hl1:(h'++[some (Blk.cells (aI ((c.data.drop s.at_).take n)) (5+1))]).length=h'.length+1:=by simp
    generalize h'++[some (Blk.cells (aI ((c.data.drop s.at_).take n)) (5+1))]=h1 at*
    obtain ⟨stp1,y1,sl1,st1,ct1,cl1,QQ1,hp1,q2,q3,qk,q4,q5⟩:=R1.ex;have hp1':=hp1;unfold rdL at hp1';simp only [sy,A7,seval,w1,w2,g1,rj,rM,qX,qV,wR,xc,qY,q9,hp',n64,ld,w3,w4,w5,w6,w7,w8,g2,g3,hv,ap,ble,hp1',qe];have R2:=(R1.upd (s':={s with at_:=s.at_+n}) (stp':=stp1) (y':=y1) q2 q3 qk q4 q5);have k0:dF kd h'.length 0 h'.length=0:=iY (A9 _);refine Ends.mk ⟨dF kd h'.length 0,h'.length,?_,by rw [hT];exact R2,by rw [Bb];omega,fun i hi h0'=>⟨?_,by rw [cF hi];exact h0'⟩,by rw [Bb,hl1,cF (by omega)];exact k0,A9 _⟩
    ·rw [hT]
     refine .inr ⟨fun cc=>hb0 (by rw [show (c.data.drop s.at_).take n=[] from cc];rfl),h'.length,false,(5+1),by rw [hdl],rfl,?_⟩
     rw [ae (fun cc=>by have:=R1.kp;rw [cc,k0] at this;cases this)];exact hz
    ·rw [ae (R.iV h0'),fo i hi]
theorem TkP.nx {t:List Nat×PR} {v:AV} {h':AH} (T:TkP m K kd h p c t v h'):Nx h.length m K kd h p c t.2 h':=by
 obtain ⟨kd',b0,d,R,l,f,_⟩:=T;exact ⟨kd',R,l,f⟩
theorem take_one (c:PC) (s:PR) (ha:s.at_≤1000000):s.take c 1 s.at_=(match c.data[s.at_]? with|none=>([],s.cd 10 c.data.length)|some b=>([b],{s with at_:=s.at_+1})):=by
 unfold PR.take;rw [if_neg (by omega)]
 cases e:c.data[s.at_]? with
 |none=>
  have:=CU.1 e
  rw [if_pos (by omega)]
 |some b=>
  have hlt:=(Bc.1 e).1;rw [if_neg (by omega)]
  have:(c.data.drop s.at_).take 1=[b]:=by
   obtain ⟨A,B,h1,h2⟩:=jf e;rw [h1,←h2,CS];rfl
  rw [this]
theorem akJ (R:RS m K kd h p c s) (f:Nat):aH (CL mx) (rl (CL mx) (f+1)).run 202 [.pto p 0] h=some (.int 9223372036854775807 4611686018427387904,h):=by
 obtain ⟨r,h2,el,er,eh⟩:=aL.call (C:=CL mx) (xy (mx:=mx) R f);rw [er,eh] at el;exact el
theorem gd (R:RS m K kd h p c s) (f:Nat):aH (CL mx) (rl (CL mx) (f+1)).run 136 [.pto p 0] h=some (.bool (decide (s.code=0)),h):=by
 obtain ⟨r,h2,el,er,eh⟩:=aL.call (C:=CL mx) (aj8 (mx:=mx) R f);rw [er,eh] at el;exact el
theorem aiY (R:RS m K kd h p c s) (W:Wf c s) {a:Nat} (f:Nat):
 aL (fun r h'=>r= .int 255 ((s.byte c).1:Int)∧Nx h.length m K kd h p c (s.byte c).2 h') ((rl (CL mx) (f+3)).run 239 [.pto p 0,.int 9223372036854775807 (a:Int)] h):=by
 refine aL.runs (n:=f+2) (aj9 mx _ _ _ _ _) ?_;have hlen:=R.len;have wat:=W.at_;obtain ⟨stp,y,sl,st,ct,cl,QQ,hp,o2,o3,ok,o4,o5⟩:=R.ex;have hp':=hp;unfold rdL at hp';have hpl:=aJ hp;have el:=akJ (mx:=mx) R (f+1);have g1:decide ((s.at_:Int)=4611686018427387904)=false:=by rw [decide_eq_false_iff_not];omega
 have ltp: ∀j,AV.lt (ag h) (.pto p j)=true:=fun j=>by rw [fE,ah,decide_eq_true_iff];exact hpl
 have lti: ∀(k:Nat) (x:Int),AV.lt (ag h) (.int k x)=true:=fun k x=>rfl
 simp only [sy,A7,seval,ahO,ajy,aiU,ajo,ai4,jx,lj,jZ,hp',n64,el,g1,eM,nj,o1,sH,sG,pF,pf,adN,ep,ltp,lti,ja];refine cy (rY R W (n:=1) (a:=s.at_) (by omega) wat f).call ?_;intro r h' T;have ht:=take_one c s (by omega);have nx:=T.nx;obtain ⟨kd',b0,hd,R',l',f',_⟩:=T;rw [ht] at hd nx;unfold PR.byte
 cases e:c.data[s.at_]? with
 |none=>
  rw [e] at hd nx;rcases hd with ⟨_,rfl⟩|⟨c0,_⟩
  ·simp only [sy,A7,seval,decide_true,zV]
   exact Ends.mk ⟨rfl,nx⟩
  ·exact absurd rfl c0
 |some b=>
  rw [e] at hd nx;rcases hd with ⟨c0,_⟩|⟨_,b1,e1,y1,rfl,_,hb⟩
  ·cases c0
  ·have hb':ab h' b1=some (.cells [.int 255 (b:Int)] y1):=hb
   have g2:decide ((1:Int)=0)=false:=by decide
   have le: ∀κ:Ka,bG (.slo b1 0 ([b]:List Nat).length ([b]:List Nat).length 1 e1) h' κ=κ (.int 9223372036854775807 1) h':=fun κ=>rfl
   have ix: ∀κ:Ka,bM 1 (.slo b1 0 ([b]:List Nat).length ([b]:List Nat).length 1 e1) (.int 9223372036854775807 0) h' κ=κ (.pto b1 0) h':=fun κ=>by
    have:=vn (h:=h') (κ:=κ) 1 b1 0 1 1 e1 9223372036854775807 0
    exact this
   simp only [show ([b]:List Nat).length=1 from rfl] at ix le ⊢;simp only [sy,seval,le,g2,ix,hb',zV];exact Ends.mk ⟨rfl,nx⟩
end
noncomputable section
section
set_option maxRecDepth 100000
variable (mx:Int) (run:Run) (lp:Lp) (κn:Kt) (κx:Ex→Kt) (h:AH) (v0 v1 o v5 l v11 q v46 t:AV)
end
section
set_option maxRecDepth 100000
variable (mx:Int) (run:Run) (lp:Lp) (κn:Kt) (κx:Ex→Kt) (h:AH) (v0 v2:AV)
end
section
set_option maxRecDepth 100000
variable (mx:Int) (run:Run) (lp:Lp) (κn:Kt) (κx:Ex→Kt) (h:AH) (v0 v1 o v5 l v7 y u v w x:AV)
end
def fv (v0 v1 o v5 l v7 g d j k:AV):Tm:=(.nd 7 (.nd 4 (.nd 1 (.lf 0 v0) (.lf 1 v1)) (.nd 5 (.lf 4 o) (.nd 6 (.lf 5 v5) (.lf 6 l)))) (.nd 15 (.nd 14 (.lf 7 v7) (.lf 14 g)) (.nd 16 (.lf 15 d) (.nd 22 (.lf 16 j) (.lf 22 k)))))
def akG (mx:Int):K:=kAt [] (kOf (CL mx) 237)
def atw (mx:Int):K:=kAt [1,1,1,0] (kOf (CL mx) 237)
def ato (mx:Int):K:=kAt [1,1,1,1] (kOf (CL mx) 237)
def amW (mx:Int):K:=kAt [1,1,1,0,1,0,0] (kOf (CL mx) 237)
def atg (mx:Int):K:=kAt [1,1,1,0,1,0,0,1,1,0] (kOf (CL mx) 237)
def auu (mx:Int):K:=kAt [1,1,1,0,1,0,0,1,1,1] (kOf (CL mx) 237)
def ath (mx:Int):K:=kAt [1,1,1,0,1,0,0,1,1,0,0,1,1,0] (kOf (CL mx) 237)
def atf (mx:Int):K:=kAt [1,1,1,0,1,0,0,1,1,0,0,1,1,1] (kOf (CL mx) 237)
section
set_option maxRecDepth 100000
variable (mx:Int) (run:Run) (lp:Lp) (κn:Kt) (κx:Ex→Kt) (h:AH) (v0 v1 o v5 l v7 g d j k:AV)
theorem al2:kc (CL mx) run lp (akG mx) ⟨fv v0 v1 o v5 l v7 g d j k,h⟩ κn κx=bG v0 h (fun a0 h=>kh false a0 (.int 9223372036854775807 8) h (fun a1 h=>slS 1 v0 none (some a1) none h (fun a2 h=>kc (CL mx) run lp (atw mx) ⟨fv a2 v1 (.int 18446744073709551615 0) (.int 18446744073709551615 0) l v7 g d j k,h⟩ (fun s=>kc (CL mx) run lp (ato mx) s κn κx) κx))):=by kernel_rfl
theorem apF:kc (CL mx) run lp (atw mx) ⟨fv v0 v1 o v5 l v7 g d j k,h⟩ κn κx=bG v0 h (fun a0 h=>kcR κn (kcO 0 κn κx) (lp (amW mx) ⟨fv v0 v1 o v5 l v7 a0 (.int 9223372036854775807 0) j k,h⟩)):=by kernel_rfl
theorem akz:kc (CL mx) run lp (ato mx) ⟨fv v0 v1 o v5 l v7 g d j k,h⟩ κn κx=κx .ret ⟨fv v0 v1 v5 v5 l v7 g d j k,h⟩:=by kernel_rfl
theorem ua:kc (CL mx) run lp (amW mx) ⟨fv v0 v1 o v5 l v7 g d j k,h⟩ κn κx=cmp ilt d g h (fun a0 h=>bJ a0 (kc (CL mx) run lp (atg mx) ⟨fv v0 v1 o v5 l v7 g d a0 k,h⟩ (fun s=>kc (CL mx) run lp (auu mx) s κn κx) κx) (κx (.exit 0) ⟨fv v0 v1 o v5 l v7 g d a0 k,h⟩)):=by kernel_rfl
theorem abe:kc (CL mx) run lp (atg mx) ⟨fv v0 v1 o v5 l v7 g d j k,h⟩ κn κx=bM 1 v0 d h (fun a0 h=>ao a0 h (fun a1 h=>kc (CL mx) run lp (ath mx) ⟨fv v0 v1 o v5 d a1 g d j k,h⟩ (fun s=>kc (CL mx) run lp (atf mx) s κn (kcO 1 κn κx)) (kcO 1 κn κx))):=by kernel_rfl
theorem abL:kc (CL mx) run lp (auu mx) ⟨fv v0 v1 o v5 l v7 g d j k,h⟩ κn κx=arith cg d (.int 9223372036854775807 1) h (fun a0 h=>κn ⟨fv v0 v1 o v5 l v7 g a0 j k,h⟩):=by kernel_rfl
theorem zY:kc (CL mx) run lp (ath mx) ⟨fv v0 v1 o v5 l v7 g d j k,h⟩ κn κx=bJ v1 (bG v0 h (fun a0 h=>arith jC a0 (.int 9223372036854775807 1) h (fun a1 h=>arith jC a1 l h (fun a2 h=>bM 1 v0 a2 h (fun a3 h=>ao a3 h (fun a4 h=>κn ⟨fv v0 v1 o v5 l a4 g d j v1,h⟩)))))) (κn ⟨fv v0 v1 o v5 l v7 g d j v1,h⟩):=by kernel_rfl
theorem abT:kc (CL mx) run lp (atf mx) ⟨fv v0 v1 o v5 l v7 g d j k,h⟩ κn κx=ahq 18446744073709551615 64 v5 (.int 18446744073709551615 8) h (fun a0 h=>cvI 18446744073709551615 v7 h (fun a1 h=>pS 18446744073709551615 18446744073709551615 Nat.lor a0 a1 h (fun a2 h=>κn ⟨fv v0 v1 o a2 l v7 g d j k,h⟩))):=by kernel_rfl
theorem aq4:kcE (CL mx) [.tmp 4] ⟨fv v0 v1 o v5 l v7 g d j k,h⟩=some (.vh o h):=(bW _ _ _).trans (by kernel_rfl)
theorem auP:dz (CL mx) 237=some ⟨akG mx,[0,1,4,5,6,7,14,15,16,22],38,[.tmp 4]⟩:=by kernel_rfl
end
theorem arj (mx:Int) (run:Run) (lp:Lp) (x0 x1:AV) (h:AH):dk (CL mx) run lp 237 [x0,x1] h=vhO (kc (CL mx) run lp (akG mx) ⟨fv x0 x1 .bot .bot .bot .bot .bot .bot .bot .bot,h⟩ (kcE (CL mx) [.tmp 4]) (kcQ (CL mx) [.tmp 4])):=(bV (by kernel_rfl) (auP mx) (by kernel_rfl)).trans (by kernel_rfl)
theorem aeG (mx:Int) (p:List Nat):eQ (CL mx) (kAt p (kOf (CL mx) 237)):=iX p (iT (CL mx) 237)
def yF (v0 v1 v2 l:AV):Tm:=(.nd 2 (.nd 1 (.lf 0 v0) (.lf 1 v1)) (.nd 6 (.lf 2 v2) (.lf 6 l)))
def acg (mx:Int):K:=kAt [] (kOf (CL mx) 150)
section
set_option maxRecDepth 100000
variable (mx:Int) (run:Run) (lp:Lp) (κn:Kt) (κx:Ex→Kt) (h:AH) (v0 v1 v2 l:AV)
theorem aiq:kc (CL mx) run lp (acg mx) ⟨yF v0 v1 v2 l,h⟩ κn κx=cmp ile v1 v0 h (fun a0 h=>aC a0 true (fun κ=>aW v0 h κ) h (fun a1 h=>aC a0 true (fun κ=>aW v2 h κ) h (fun a2 h=>aC a0 true (fun κ=>cmp ile a1 a2 h κ) h (fun a3 h=>fw a0 a3 (.bool false) h (fun a4 h=>κx .ret ⟨yF v0 v1 v2 a4,h⟩))))):=by kernel_rfl
theorem apX:kcE (CL mx) [.tmp 6] ⟨yF v0 v1 v2 l,h⟩=some (.vh l h):=(bW _ _ _).trans (by kernel_rfl)
theorem asn:dz (CL mx) 150=some ⟨acg mx,[0,1,2,6],15,[.tmp 6]⟩:=by kernel_rfl
end
theorem anN (mx:Int) (run:Run) (lp:Lp) (x0 x1 x2:AV) (h:AH):dk (CL mx) run lp 150 [x0,x1,x2] h=vhO (kc (CL mx) run lp (acg mx) ⟨yF x0 x1 x2 .bot,h⟩ (kcE (CL mx) [.tmp 6]) (kcQ (CL mx) [.tmp 6])):=(bV (by kernel_rfl) (asn mx) (by kernel_rfl)).trans (by kernel_rfl)
def ade:=Du @aiq (@apX)
end
section
variable {mx:Int} {m:Nat} {K:RC} {kd:Nat→Nat} {h:AH} {p:Nat} {c:PC} {s:PR}
theorem Nx.trans {n:Nat} {s2 s3:PR} {h2 h3:AH} (hn:n≤h.length) (a: ∀kd2,RS m K kd2 h2 p c s2→(∀i,i<n→kd i=0→kd2 i=0)→Nx n m K kd2 h2 p c s3 h3) (b:Nx n m K kd h p c s2 h2):Nx n m K kd h p c s3 h3:=by
 obtain ⟨kd2,R2,l2,f2⟩:=b;obtain ⟨kd3,R3,l3,f3⟩:=a kd2 R2 fun i hi h0=>(f2 i hi h0).2
 exact ⟨kd3,R3,Bo l2 l3,fun i hi h0=>by
  have e1:=f2 i hi h0;have e2:=f3 i hi e1.2;exact ⟨e2.1.trans e1.1,e2.2⟩⟩
theorem Wf.cd (W:Wf c s) (e a:Nat):Wf c (s.cd e a):=by
 unfold PR.cd
 split
 ·exact ⟨W.at_,W.last,W.parts,W.dep,W.stk⟩
 ·exact W
theorem Wf.byte (W:Wf c s):Wf c (s.byte c).2:=by
 unfold PR.byte
 cases e:c.data[s.at_]? with
 |none=>exact W.cd _ _
 |some b=>
  have:=(Bc.1 e).1
  exact ⟨this,W.last,W.parts,W.dep,W.stk⟩
theorem Nx.pre {n:Nat} {kd2:Nat→Nat} {s3:PR} {h2 h3:AH} (a:h.length≤h2.length∧ ∀i,i<n→kd i=0→ab h2 i=ab h i∧kd2 i=0) (b:Nx n m K kd2 h2 p c s3 h3):Nx n m K kd h p c s3 h3:=by
 obtain ⟨kd3,R3,l3,f3⟩:=b;exact ⟨kd3,R3,Bo a.1 l3,fun i hi h0=>by
  have e1:=a.2 i hi h0;have e2:=f3 i hi e1.2;exact ⟨e2.1.trans e1.1,e2.2⟩⟩
theorem aip (n a b:Nat) (f:Nat):aL (fun r h'=>r= .bool (decide (a≤n∧n≤b))∧h'=h) ((rl (CL mx) (f+1)).run 150 [.int 18446744073709551615 (n:Int),.int 18446744073709551615 (a:Int),.int 18446744073709551615 (b:Int)] h):=by
 refine aL.runs (n:=f) (anN mx _ _ _ _ _ _) ?_
 by_cases h1:a≤n
 ·have g1:decide ((a:Int)≤(n:Int))=true:=by rw [decide_eq_true_iff];omega
  by_cases h2:n≤b
  ·have g2:decide ((n:Int)≤(b:Int))=true:=by rw [decide_eq_true_iff];omega
   simp only [sy,A7,seval,ade,g1,g2];exact Ends.mk ⟨by rw [decide_eq_true (Du h1 h2)],rfl⟩
  ·have g2:decide ((n:Int)≤(b:Int))=false:=by rw [decide_eq_false_iff_not];omega
   simp only [sy,A7,seval,ade,g1,g2];exact Ends.mk ⟨by rw [decide_eq_false (fun cc=>h2 cc.2)],rfl⟩
 ·have g1:decide ((a:Int)≤(n:Int))=false:=by rw [decide_eq_false_iff_not];omega
  simp only [sy,A7,seval,ade,g1];exact Ends.mk ⟨by rw [decide_eq_false (fun cc=>h1 cc.1)],rfl⟩
end
noncomputable section
def b9 (v0 v1 l t v10 v20 v47 v56 v66:AV):Tm:=(.nd 10 (.nd 3 (.nd 1 (.lf 0 v0) (.lf 1 v1)) (.nd 4 (.lf 3 l) (.lf 4 t))) (.nd 47 (.nd 20 (.lf 10 v10) (.lf 20 v20)) (.nd 56 (.lf 47 v47) (.nd 66 (.lf 56 v56) (.lf 66 v66)))))
def ad4 (mx:Int):K:=kAt [] (kOf (CL mx) 196)
def ajL (mx:Int):K:=kAt [1,1,1,1,1,0] (kOf (CL mx) 196)
def adg (mx:Int):K:=kAt [1,1,1,1,1,1] (kOf (CL mx) 196)
def ako (mx:Int):K:=kAt [1,1,1,1,1,0,1,0] (kOf (CL mx) 196)
def adr (mx:Int):K:=kAt [1,1,1,1,1,1,0] (kOf (CL mx) 196)
def amQ (mx:Int):K:=kAt [1,1,1,1,1,1,1] (kOf (CL mx) 196)
def acS (mx:Int):K:=kAt [1,1,1,1,1,1,1,0] (kOf (CL mx) 196)
def acq (mx:Int):K:=kAt [1,1,1,1,1,1,1,1] (kOf (CL mx) 196)
def ant (mx:Int):K:=kAt [1,1,1,1,1,1,1,0,1,0] (kOf (CL mx) 196)
section
set_option maxRecDepth 100000
variable (mx:Int) (run:Run) (lp:Lp) (κn:Kt) (κx:Ex→Kt) (h:AH) (v0 v1 l t v10 v20 v47 v56 v66:AV)
theorem ahr:kc (CL mx) run lp (ad4 mx) ⟨b9 v0 v1 l t v10 v20 v47 v56 v66,h⟩ κn κx=fQ 350 v1 h (fun a0 h=>dX (placeOf (CL mx) [(0,64),(1,4),(2,22),(3,65)]) [.int 18446744073709551615 0,.bool false,.aa,.aa] [] h (fun a1 h=>aP (fun a2 h=>aP (fun a3 h=>oE a3 h (fun a4 h=>bJ a4 (κx .ret ⟨b9 v0 v1 a0 t a4 v20 v47 v56 v66,h⟩) (aM v0 h (fun a5 h=>aj 10 a5 h (fun a6 h=>ao a6 h (fun a7 h=>aM v0 h (fun a8 h=>aj 11 a8 h (fun a9 h=>bQ a9 a7 h (fun a10 h=>kc (CL mx) run lp (ajL mx) ⟨b9 v0 v1 a0 (.int 18446744073709551615 0) a4 v20 v47 v56 v66,h⟩ (fun s=>kc (CL mx) run lp (adg mx) s κn κx) κx))))))))) (aH (CL mx) run 136 [v0] h)) (aH (CL mx) run 194 [v0,a1] h))):=by kernel_rfl
theorem agW:kc (CL mx) run lp (ajL mx) ⟨b9 v0 v1 l t v10 v20 v47 v56 v66,h⟩ κn κx=aj 0 l h (fun a0 h=>ao a0 h (fun a1 h=>cmp cD a1 (.int 9223372036854775807 3) h (fun a2 h=>bJ a2 (kc (CL mx) run lp (ako mx) ⟨b9 v0 v1 l t v10 a2 v47 v56 v66,h⟩ κn κx) (aj 3 l h (fun a3 h=>ao a3 h (fun a4 h=>aP (fun a5 h=>κn ⟨b9 v0 v1 l a5 v10 a2 v47 v56 v66,h⟩) (aH (CL mx) run 238 [v0,a4] h))))))):=by kernel_rfl
theorem ahY:kc (CL mx) run lp (adg mx) ⟨b9 v0 v1 l t v10 v20 v47 v56 v66,h⟩ κn κx=kc (CL mx) run lp (adr mx) ⟨b9 v0 v1 l t v10 v20 v47 v56 v66,h⟩ (fun s=>kc (CL mx) run lp (amQ mx) s κn κx) κx:=by kernel_rfl
theorem ahn:kc (CL mx) run lp (ako mx) ⟨b9 v0 v1 l t v10 v20 v47 v56 v66,h⟩ κn κx=kcR κn κx (dr (sRd [] h (aW v0 h kVH) fun r0=>sRd [r0.v] r0.h' (aj 1 l r0.h' kVH) fun r1=>sRd [r1.v,r0.v] r1.h' (ao r1.v r1.h' kVH) fun r2=>sRd [r2.v,r1.v,r0.v] r2.h' (cvI 18446744073709551615 r2.v r2.h' kVH) fun r3=>sRd [r3.v,r2.v,r1.v,r0.v] r3.h' (aW v0 r3.h' kVH) fun r4=>sRd [r4.v,r3.v,r2.v,r1.v,r0.v] r4.h' (aM r4.v r4.h' kVH) fun r5=>sRd [r5.v,r4.v,r3.v,r2.v,r1.v,r0.v] r5.h' (aj 10 r5.v r5.h' kVH) fun r6=>sRd [r6.v,r5.v,r4.v,r3.v,r2.v,r1.v,r0.v] r6.h' (ao r6.v r6.h' kVH) fun r7=>sEf [r7.v,r6.v,r5.v,r4.v,r3.v,r2.v,r1.v,r0.v] r7.h' (aP kVH (aH (CL mx) run 200 [r0.v,r3.v,r7.v] r7.h')) fun r8=>sRd [r8.v,r7.v,r6.v,r5.v,r4.v,r3.v,r2.v,r1.v,r0.v] r8.h' (aj 3 l r8.h' kVH) fun r9=>sRd [r9.v,r8.v,r7.v,r6.v,r5.v,r4.v,r3.v,r2.v,r1.v,r0.v] r9.h' (ao r9.v r9.h' kVH) fun r10=>sEf [r10.v,r9.v,r8.v,r7.v,r6.v,r5.v,r4.v,r3.v,r2.v,r1.v,r0.v] r10.h' (aP kVH (aH (CL mx) run 237 [r8.v,r10.v] r10.h')) fun r11=>sRd [r11.v,r10.v,r9.v,r8.v,r7.v,r6.v,r5.v,r4.v,r3.v,r2.v,r1.v,r0.v] r11.h' (aW r11.v r11.h' kVH) fun r12=>bq (and (aG r9 (OK.f (.mk (o1 (aj 3) (.tr 3))) (CL mx) run r9.σ (b9 v0 v1 l t v10 v20 v47 v56 v66) (aN (ag r9.h) r8.h) kVH)) (and (aG r10 (OK.f (.mk (o1 ao (.st 0))) (CL mx) run r10.σ (b9 v0 v1 l t v10 v20 v47 v56 v66) (aN (ag r10.h) r8.h) kVH)) (true))) (some (.st (b9 v0 v1 l r12.v v10 v20 v47 v56 v66) r12.h')) none)):=(eW (C:=CL mx) [1,1,1,1,1,0,1,0] 196 [0,1,3,4,10,20,47,56,66] (by kernel_rfl) _ _ _).trans (by kernel_rfl)
theorem rQ:kc (CL mx) run lp (adr mx) ⟨b9 v0 v1 l t v10 v20 v47 v56 v66,h⟩ κn κx=aP (fun a0 h=>aC a0 true (fun κ=>aW t h κ) h (fun a1 h=>aC a0 true (fun κ=>aj 4 l h κ) h (fun a2 h=>aC a0 true (fun κ=>ao a2 h κ) h (fun a3 h=>aC a0 true (fun κ=>aj 5 l h κ) h (fun a4 h=>aC a0 true (fun κ=>ao a4 h κ) h (fun a5 h=>aC a0 true (fun κ=>aP κ (aH (CL mx) run 150 [a1,a3,a5] h)) h (fun a6 h=>aC a0 true (fun κ=>oE a6 h κ) h (fun a7 h=>fw a0 a7 (.bool false) h (fun a8 h=>bJ a8 (aM v0 h (fun a9 h=>aj 11 a9 h (fun a10 h=>ao a10 h (fun a11 h=>aP (fun a12 h=>κn ⟨b9 v0 v1 l t v10 v20 a8 v56 v66,h⟩) (aH (CL mx) run 138 [v0,(.int 9223372036854775807 210),a11] h))))) (κn ⟨b9 v0 v1 l t v10 v20 a8 v56 v66,h⟩)))))))))) (aH (CL mx) run 136 [v0] h):=by kernel_rfl
theorem aix:kc (CL mx) run lp (amQ mx) ⟨b9 v0 v1 l t v10 v20 v47 v56 v66,h⟩ κn κx=kc (CL mx) run lp (acS mx) ⟨b9 v0 v1 l t v10 v20 v47 v56 v66,h⟩ (fun s=>kc (CL mx) run lp (acq mx) s κn κx) κx:=by kernel_rfl
theorem wN:kc (CL mx) run lp (acS mx) ⟨b9 v0 v1 l t v10 v20 v47 v56 v66,h⟩ κn κx=aj 2 l h (fun a0 h=>ao a0 h (fun a1 h=>cmp ige a1 (.int 9223372036854775807 0) h (fun a2 h=>bJ a2 (kc (CL mx) run lp (ant mx) ⟨b9 v0 v1 l t v10 v20 v47 a2 v66,h⟩ κn κx) (κn ⟨b9 v0 v1 l t v10 v20 v47 a2 v66,h⟩)))):=by kernel_rfl
theorem yp:kc (CL mx) run lp (acq mx) ⟨b9 v0 v1 l t v10 v20 v47 v56 v66,h⟩ κn κx=aP (fun a0 h=>bJ a0 (dX (placeOf (CL mx) [(0,64),(1,4),(2,22),(3,65)]) [.int 18446744073709551615 0,.bool false,.aa,.aa] [(0,t)] h (fun a1 h=>aP (fun a2 h=>κn ⟨b9 v0 v1 l t v10 v20 v47 v56 a0,h⟩) (aH (CL mx) run 199 [v0,a1] h))) (κn ⟨b9 v0 v1 l t v10 v20 v47 v56 a0,h⟩)) (aH (CL mx) run 136 [v0] h):=by kernel_rfl
theorem ajd:kc (CL mx) run lp (ant mx) ⟨b9 v0 v1 l t v10 v20 v47 v56 v66,h⟩ κn κx=aM v0 h (fun a0 h=>aj 14 a0 h (fun a1 h=>ao a1 h (fun a2 h=>aj 2 l h (fun a3 h=>ao a3 h (fun a4 h=>bM 1 a2 a4 h (fun a5 h=>bQ a5 t h (fun a6 h1=>bq (Nat.ble (ag h) (ag h1)) ((fun h=>κn ⟨b9 v0 v1 l t v10 v20 v47 v56 v66,h⟩) h1) none))))))):=(cA (C:=CL mx) (ops:=opsOf (cAt [1,1,1,1,1,1,1,0,1,0] (bS (CL mx) 196))) (ps:=[0,1,3,4,10,20,47,56,66]) (by kernel_rfl) (by kernel_rfl) _ _ _).trans (by kernel_rfl)
theorem adZ:bc (b9 v0 v1 l t v10 v20 v47 v56 v66) 0=v0:=(rfl)
theorem adS:bc (b9 v0 v1 l t v10 v20 v47 v56 v66) 3=l:=(rfl)
theorem aac:kcE (CL mx) [] ⟨b9 v0 v1 l t v10 v20 v47 v56 v66,h⟩=some (.vh (.tup []) h):=(bW _ _ _).trans (by kernel_rfl)
theorem aqS:dz (CL mx) 196=some ⟨ad4 mx,[0,1,3,4,10,20,47,56,66],71,[]⟩:=by kernel_rfl
end
theorem aoK (mx:Int) (run:Run) (lp:Lp) (x0 x1:AV) (h:AH):dk (CL mx) run lp 196 [x0,x1] h=vhO (kc (CL mx) run lp (ad4 mx) ⟨b9 x0 x1 .bot .bot .bot .bot .bot .bot .bot,h⟩ (kcE (CL mx) []) (kcQ (CL mx) [])):=(bV (by kernel_rfl) (aqS mx) (by kernel_rfl)).trans (by kernel_rfl)
end
section
variable {mx:Int} {m:Nat} {K:RC} {kd:Nat→Nat} {h:AH} {p:Nat} {c:PC} {s:PR}
theorem akk (P:List Nat) (c:Nat):beN (P++[c])=beN P*256+c:=by unfold beN;rw [List.foldl_append];rfl
theorem aoc: ∀(r:List Nat) (a k:Nat),(∀x∈r,x<256)→a<256^k→r.foldl (fun n c=>n*256+c) a<256^(k+r.length)
 |[],a,k,_,ha=>ha
 |x::r,a,k,hx,ha=>by
  have h1:=hx x (BB ..)
  have:a*256+x<256^(k+1):=by rw [Nat.pow_succ];omega
  have:=aoc r _ (k+1) (fun y hy=>hx y (Bh _ hy)) this
  rw [Br,show k+(r.length+1)=k+1+r.length by omega];exact this
theorem avY {P:List Nat} (hP: ∀x∈P,x<256):beN P<256^P.length:=by
 have:=aoc P 0 0 hP (by decide)
 rw [BE] at this;exact this
theorem axI {a c:Nat} (hc:c<256):Nat.lor (a*256) c=a*256+c:=by
 have:=Nat.two_pow_add_eq_or_of_lt (b:=c) (i:=8) hc a
 show a*256|||c=_;rw [Db a 256];exact this.symm
theorem as2 {Q:Option Rs→Prop} {κn:Kt} {κx:Ex→Kt} {v:AV} {d L:List Nat} {flag:Bool} (D:cW h v (aI d)) (hd:d.length≤8) (hb: ∀x∈d,x<256) (hL:L=if flag then d.reverse else d) (t:AV): ∀(R P:List Nat) (f:Nat) (B v7 w z:AV),L=P++R→R.length+2≤f→
 (∀B v7 E w z,Q (κx (.exit 0) ⟨fv v (.bool flag) t (.int 18446744073709551615 (beN L:Int)) B v7 (.int 9223372036854775807 (d.length:Int)) E w z,h⟩))→
 Q (kcR κn κx ((rl (CL mx) f).lp (amW mx) ⟨fv v (.bool flag) t (.int 18446744073709551615 (beN P:Int)) B v7 (.int 9223372036854775807 (d.length:Int)) (.int 9223372036854775807 (P.length:Int)) w z,h⟩)):=by
 have hLl:L.length=d.length:=by rw [hL];cases flag<;>simp
 have hLb: ∀x∈L,x<256:=by rw [hL];cases flag<;>simpa using hb
 intro R
 induction R with
 |nil=>
  intro P f B v7 w z hP hf hk;obtain ⟨f,rfl⟩:=fuel hf;obtain rfl:L=P:=by simpa using hP
  refine de (aeG mx _) ?_;have g:decide ((L.length:Int)<(d.length:Int))=false:=by rw [decide_eq_false_iff_not];omega
  simp only [sy,A7,seval,ua,g];exact hk _ _ _ _ _
 |cons b R ih=>
  intro P f B v7 w z hP hf hk;obtain ⟨f,rfl⟩:=fuel hf;have hlen:d.length=P.length+(R.length+1):=by rw [←hLl,hP];simp
  have eb:L[P.length]? =some b:=by rw [hP];simp
  have hb256:=hLb b (Bg eb);have hPb:beN P<256^P.length:=avY fun x hx=>hLb x (by rw [hP];simp [hx])
  have hP7:256^P.length≤256^7:=Nat.pow_le_pow_right (by omega) (by omega);have h7:256^7=72057594037927936:=by decide
  obtain ⟨x,ex⟩: ∃x,d[P.length]? =some x:=⟨_,Bd (by omega)⟩;obtain ⟨q,_,q2,q3⟩:=D.idx (py ex);have hx256:=hb x (Bg ex);have e1:decide ((P.length:Int)<(d.length:Int))=true:=by rw [decide_eq_true_iff];omega
  have e4:aQ 9223372036854775807 ((P.length:Int)+1)=((P.length+1:Nat):Int):=by rw [bp (by omega) (by omega)];simp
  have w1: ∀y:Nat,y<256→aQ 18446744073709551615 (y:Int)=(y:Int):=fun y hy=>dO (by omega)
  have s8: ∀(h:AH) (κ:Ka),ahq 18446744073709551615 64 (.int 18446744073709551615 (beN P:Int)) (.int 18446744073709551615 8) h κ=κ (.int 18446744073709551615 ((beN P*256:Nat):Int)) h:=fun h κ=>by
   rw [arb _ (by omega) (by omega),show ((8:Int)).toNat=8 from rfl,show ((beN P:Nat):Int)*((2^8:Nat):Int)=((beN P*256:Nat):Int) from (Int.natCast_mul (beN P) 256).symm,dO (by omega)]
  have b2: ∀(h:AH) (κ:Ka),pS 18446744073709551615 18446744073709551615 Nat.lor (.int 18446744073709551615 ((beN P*256:Nat):Int)) (.int 18446744073709551615 (b:Int)) h κ=κ (.int 18446744073709551615 ((beN (P++[b]):Nat):Int)) h:=fun h κ=>by
   rw [yY,qg (by omega),qg (by omega),axI hb256,dO (by omega),akk]
  have hl:=fun κ=>D.bG h κ
  rw [ba] at hl;have key:=fun B v7 w z=>ih (P++[b]) (f+R.length+2) B v7 w z (by rw [hP];simp) (by omega) hk
  rw [show (P++[b]).length=P.length+1 by simp] at key;refine de (aeG mx _) ?_
  cases flag with
  |false=>
   have hbx:x=b:=by
    have:L=d:=hL
    rw [this,ex] at eb;exact Cb eb
   subst hbx;simp only [sy,A7,seval,ua,abe,abL,zY,abT,e1,q2,q3,w1 _ hx256,s8,b2,e4];exact key _ _ _ _
  |true=>
   have hrev:L=d.reverse:=hL;have ej:d[d.length-1-P.length]? =some b:=by
    rw [hrev,List.getElem?_reverse (by omega)] at eb;exact eb
   obtain ⟨q',_,q2',q3'⟩:=D.idx (py ej);have w3:aQ 9223372036854775807 ((d.length:Int)-1)=((d.length-1:Nat):Int):=by rw [bp (by omega) (by omega)];omega
   have w4:aQ 9223372036854775807 (((d.length-1:Nat):Int)-(P.length:Int))=((d.length-1-P.length:Nat):Int):=by rw [bp (by omega) (by omega)];omega
   simp only [sy,A7,seval,ua,abe,abL,zY,abT,e1,q2,q3,hl,w3,w4,q2',q3',w1 _ hb256,s8,b2,e4];exact key _ _ _ _
theorem ans {S:Nat→Prop} {v:AV} {d:List Nat} {flag:Bool} (D:jg h S v d) (hd:d.length≤8) (hb: ∀x∈d,x<256) (f:Nat):aL (fun r h'=>r= .int 18446744073709551615 (mU flag d:Int)∧h'=h) ((rl (CL mx) (f+11)).run 237 [v,.bool flag] h):=by
 refine aL.runs (n:=f+10) (arj mx _ _ _ _ _) ?_;have hl:=fun κ=>D.at.bG h κ
 rw [ba] at hl;have wm:min (d.length:Int) 8=(d.length:Int):=by omega
 have sl: ∀κ:Ka,slS 1 v none (some (.int 9223372036854775807 (d.length:Int))) none h κ=κ v h:=fun κ=>by
  rcases D with ⟨rfl,rfl⟩|⟨d0,b,e,y,rfl,_,hb⟩
  ·rfl
  ·have hn:d.length≠0:=fun cc=>d0 (B7.1 cc)
   show bq (and (and (Nat.ble 0 d.length) (Nat.ble d.length d.length)) (and (Nat.ble d.length d.length) (or (not false) true))) (bq (Nat.beq 1 1) (bq (Nat.beq 0 d.length) (κ .sle h) (κ (.slo b (Nat.add 0 (Nat.mul 0 1)) (Nat.sub d.length 0) (Nat.sub d.length 0) 1 (or e false)) h)) none) none=_;rw [cq,cq,lJ,lJ,decide_eq_true (Cm _),decide_eq_true (A9 _),decide_eq_true rfl,decide_eq_false (show ¬0=d.length by omega),Dq];rfl
 simp only [sy,A7,seval,al2,apF,hl,wm,sl];refine as2 (L:=if flag then d.reverse else d) D.at hd hb rfl (.int 18446744073709551615 0) (if flag then d.reverse else d) [] (f+10) _ _ _ _ (by simp) (by cases flag<;>simp<;>omega) fun B v7 E w z=>?_
 simp only [sy,A7,seval,akz,aq4];exact Ends.mk ⟨rfl,rfl⟩
def stC (q:PS) (wv:AV) (bs:List AV):List AV:=[N64 q.kind,.int 9223372036854775807 q.a,.int 9223372036854775807 q.b,.bool q.flag,U64 q.mn,U64 q.mx,U64 q.mul,U64 q.add,wv]++bs
theorem stC0 (q:PS) (wv:AV) (bs:List AV):(stC q wv bs)[0]? =some (.int 9223372036854775807 (q.kind:Int)):=rfl
theorem stC1 (q:PS) (wv:AV) (bs:List AV):(stC q wv bs)[1]? =some (.int 9223372036854775807 q.a):=rfl
theorem stC2 (q:PS) (wv:AV) (bs:List AV):(stC q wv bs)[2]? =some (.int 9223372036854775807 q.b):=rfl
theorem stC3 (q:PS) (wv:AV) (bs:List AV):(stC q wv bs)[3]? =some (.bool q.flag):=rfl
theorem stC4 (q:PS) (wv:AV) (bs:List AV):(stC q wv bs)[4]? =some (.int 18446744073709551615 (q.mn:Int)):=rfl
theorem stC5 (q:PS) (wv:AV) (bs:List AV):(stC q wv bs)[5]? =some (.int 18446744073709551615 (q.mx:Int)):=rfl
theorem stC6 (q:PS) (wv:AV) (bs:List AV):(stC q wv bs)[6]? =some (.int 18446744073709551615 (q.mul:Int)):=rfl
theorem stC7 (q:PS) (wv:AV) (bs:List AV):(stC q wv bs)[7]? =some (.int 18446744073709551615 (q.add:Int)):=rfl
theorem stC8 (q:PS) (wv:AV) (bs:List AV):(stC q wv bs)[8]? =some wv:=rfl
def iL:=Du @stC0<|Du @stC1<|Du @stC2<|Du @stC3<|Du @stC4<|Du @stC5<|Du @stC6<|Du @stC7 @stC8
theorem al5 (n a b:Nat) (f:Nat):aH (CL mx) (rl (CL mx) (f+1)).run 150 [.int 18446744073709551615 (n:Int),.int 18446744073709551615 (a:Int),.int 18446744073709551615 (b:Int)] h=some (.bool (decide (a≤n∧n≤b)),h):=by
 obtain ⟨r,h2,el,er,eh⟩:=aL.call (C:=CL mx) (aip (mx:=mx) (h:=h) n a b f);rw [er,eh] at el;exact el
theorem num4 {Q:Option Rs→Prop} {κn:Kt} {κx:Ex→Kt} {lp:Lp} {v1 v10 v20 v47 v56 v66:AV} (R:RS m K kd h p c s) {q:PS} {wv:AV} {bs:List AV} {q3 y3 n:Nat} (h3:ab h q3=some (.cells (stC q wv bs) y3)) (h30:kd q3=0) (f:Nat)
 (k: ∀h1 v47,RS m K kd h1 p c (if s.code=0∧ ¬(q.mn≤n∧n≤q.mx) then s.cd 210 s.last else s)→h1.length=h.length→(∀i,kd i≠1→ab h1 i=ab h i)→Q (κn ⟨b9 (.pto p 0) v1 (.pto q3 0) (.int 18446744073709551615 (n:Int)) v10 v20 v47 v56 v66,h1⟩)):
 Q (kc (CL mx) (rl (CL mx) (f+1)).run lp (adr mx) ⟨b9 (.pto p 0) v1 (.pto q3 0) (.int 18446744073709551615 (n:Int)) v10 v20 v47 v56 v66,h⟩ κn κx):=by
 have okc:=gd (mx:=mx) R f;have wc:=al5 (mx:=mx) (h:=h) n q.mn q.mx f;obtain ⟨stp,y,sl,st,ct,cl,QQ,hp,_⟩:=R.ex;unfold rdL at hp
 by_cases h0:s.code=0
 ·by_cases hw:q.mn≤n∧n≤q.mx
  ·rw [if_neg (fun cc=>cc.2 hw)] at k
   simp only [sy,A7,seval,rQ,okc,decide_eq_true h0,h3,iL,wc,decide_eq_true hw];exact k h _ R rfl fun i _=>rfl
  ·rw [if_pos ⟨h0,hw⟩] at k
   simp only [sy,A7,seval,rQ,okc,decide_eq_true h0,h3,iL,wc,decide_eq_false hw,hp,n64];refine cy (gD R 210 s.last f).call ?_;rintro r h1 ⟨rfl,R1,n1,f1⟩;exact k h1 _ R1 n1 f1
 ·rw [if_neg (fun cc=>h0 cc.1)] at k
  simp only [sy,A7,seval,rQ,okc,decide_eq_false h0];exact k h _ R rfl fun i _=>rfl
theorem uz {S:Nat→Prop} {v:AV} {L:List Nat} (o:OwR h S 1 v (L.map fun n=>[U64 n])) {i:Nat} (hi:i<L.length) (n:Nat): ∃P b X,(∀(k:Nat) (h':AH) (κ:Ka),bM 1 v (.int k (i:Int)) h' κ=κ P h')∧(∀κ:Ka,ao P h κ=κ (.int 18446744073709551615 (L.getD i 0:Int)) h)∧S b∧(∀κ:Ka,bQ P (.int 18446744073709551615 (n:Int)) h κ=κ (.tup []) (h.set b X))∧OwR (h.set b X) S 1 v ((L.set i n).map fun n=>[U64 n]):=by
 obtain ⟨hr,⟨e,_⟩|⟨b,cap,e,junk,y,hs,ob⟩⟩:=o
 ·rw [Dm] at e
  rw [e] at hi;simp at hi
 ·have hg:(L.map fun n=>[U64 n])[i]? =some [U64 L[i]]:=by simp [hi]
  have el:=ob.el hr hg;obtain ⟨st,o'⟩:=ob.st1 hr hg (j:=0) (c:=.int 18446744073709551615 (n:Int)) (by decide) rfl;have hset:(L.map fun n=>[U64 n]).set i (List.set [U64 L[i]] 0 (.int 18446744073709551615 (n:Int)))=(L.set i n).map fun n=>[U64 n]:=by
   rw [List.map_set];rfl
  rw [hset] at st o';refine ⟨.pto b (i*1),b,_,el.idx,fun κ=>?_,hs,st,?_,?_⟩
  ·have:=el.ld1 0 (U64 L[i]) rfl κ
   show ao (.pto b (i*1+0)) h κ=_;rw [this]
   have:L.getD i 0=L[i]:=by simp [Bf,hi]
   rw [this];rfl
  ·intro r hr'
   obtain ⟨x,_,rfl⟩:=Cg.1 hr';rfl
  ·exact .inr ⟨b,cap,e,junk,y,hs,o'⟩
theorem num6 {Q:Option Rs→Prop} {κn:Kt} {κx:Ex→Kt} {run:Run} {lp:Lp} {v1 v10 v20 v47 v56 v66:AV} (R:RS m K kd h p c s) {q:PS} {wv:AV} {bs:List AV} {q3 y3 n:Nat} (h3:ab h q3=some (.cells (stC q wv bs) y3)) (h30:kd q3=0) (hb:q.b<(s.slots.length:Int))
 (k: ∀h1 v56,RS m K kd h1 p c (if 0≤q.b then {s with slots:=s.slots.set q.b.toNat n} else s)→h1.length=h.length→(∀i,kd i≠2→ab h1 i=ab h i)→Q (κn ⟨b9 (.pto p 0) v1 (.pto q3 0) (.int 18446744073709551615 (n:Int)) v10 v20 v47 v56 v66,h1⟩)):
 Q (kc (CL mx) run lp (acS mx) ⟨b9 (.pto p 0) v1 (.pto q3 0) (.int 18446744073709551615 (n:Int)) v10 v20 v47 v56 v66,h⟩ κn κx):=by
 obtain ⟨stp,y,sl,st,ct,cl,QQ,hp,o2,o3,ok,o4,o5⟩:=R.ex;have hp':=hp;unfold rdL at hp';have hpl:=aJ hp
 by_cases h0:0≤q.b
 ·rw [if_pos h0] at k
  obtain ⟨j,hj⟩:=Int.eq_ofNat_of_zero_le h0;have hjl:j<s.slots.length:=by omega
  obtain ⟨P,b,X,ix,_,hs,st1,o'⟩:=uz o2 hjl n;have hs:kd b=2:=hs;rw [←hj] at ix;have ble2:Nat.ble (ag h) (ag (h.set b X))=true:=by rw [cq,ah,ah];simp
  simp only [sy,A7,seval,wN,ajd,h3,iL,decide_eq_true h0,hp',ix,st1,ble2];have fr: ∀i,kd i≠2→ab (h.set b X) i=ab h i:=fun i hi=>ae (fun cc=>hi (by rw [←cc];exact hs)) _
  have mm: ∀{j:Nat},j≠2→ ∀b',b'<h.length→kd b'=j→kd b'=j∧ab (h.set b X) b'=ab h b':=fun hj b' hb' e=>⟨e,fr b' (by rw [e];exact hj)⟩
  refine k _ _ (R.make (stp':=stp) (y':=y) (sl:=sl) (st:=st) (ct:=ct) (cl:=cl) (Q:=QQ) R.kp (fun i hi=>⟨R.lo i hi,fr i (by rw [R.lo i hi];decide)⟩) (by rw [Bb];exact A9 _) (by rw [fr p (by rw [R.kp];decide)];exact hp) ?_ (o3.mono (mm (by decide))) (ok.mono fun b' hb' h1 _=>⟨rfl,fr b' (by omega)⟩) (o4.mono (mm (by decide))) (o5.mono (mm (by decide)))) (Bb) fr
  rw [show q.b.toNat=j by omega];exact o'
 ·rw [if_neg h0] at k
  simp only [sy,A7,seval,wN,h3,iL,decide_eq_false h0];exact k h _ R rfl fun i _=>rfl
theorem qW {h:AH} {i m:Nat} (h1:i<h.length) (h2:i<m):ab (aN m h) i=ab h i:=by
 unfold aN;rw [aV,aS,ak (by rw [Bq];omega),bE,bE,CW h2]
theorem num7 {Q:Option Rs→Prop} {κn:Kt} {κx:Ex→Kt} {lp:Lp} {v1 l v10 v20 v47 v56 v66:AV} (R:RS m K kd h p c s) {t0 u:PT} {r:List PT} (hs:s.stack=t0::u::r) (hlen:r.length≤90000) (hkids: ∀n b d ks,u= .nd n b d ks→ks.length≤90000∧d=[]) {n n0:Nat} (hmn:m≤n0) (hn1:n0≤h.length) (f:Nat)
 (k: ∀h' v66,Nx n0 m K kd h p c (if s.code=0 then s.leaf (.nd n false [] []) else s) h'→Q (κn ⟨b9 (.pto p 0) v1 l (.int 18446744073709551615 (n:Int)) v10 v20 v47 v56 v66,h'⟩)):
 Q (kc (CL mx) (rl (CL mx) (f+2)).run lp (acq mx) ⟨b9 (.pto p 0) v1 l (.int 18446744073709551615 (n:Int)) v10 v20 v47 v56 v66,h⟩ κn κx):=by
 have okc:=gd (mx:=mx) R (f+1)
 by_cases h0:s.code=0
 ·rw [if_pos h0] at k
  simp only [sy,A7,seval,yp,okc,decide_eq_true h0];refine wEq (cZ (cs:=[.int 18446744073709551615 (n:Int),.bool false,.aa,.aa]) (by kernel_rfl)) ?_;refine cy (rU R hs hlen hkids (nn:=n) (dv:=.aa) (dd:=[]) (b0:=h.length) (n0:=n0) (.inl ⟨rfl,rfl⟩) (iY (A9 _)) hmn hn1 hn1 f).call ?_;rintro x h' ⟨rfl,nx⟩;exact k h' _ nx
 ·rw [if_neg h0] at k
  simp only [sy,A7,seval,yp,okc,decide_eq_false h0];exact k h _ ⟨kd,R,A9 _,fun i _ h0=>⟨rfl,h0⟩⟩
theorem asm {lp:Lp} {v1 v10 v20 v47 v56 v66:AV} (R:RS m K kd h p c s) {q:PS} {wv:AV} {bs:List AV} {q3 y3 n n0:Nat} (h3:ab h q3=some (.cells (stC q wv bs) y3)) (h30:kd q3=0) (hb:q.b<(s.slots.length:Int))
 {t0 u:PT} {r:List PT} (hs:s.stack=t0::u::r) (hlen:r.length≤90000) (hkids: ∀n b d ks,u= .nd n b d ks→ks.length≤90000∧d=[]) (hmn:m≤n0) (hn1:n0≤h.length) (f:Nat):
 Ends (fun x h'=>x= .tup []∧Nx n0 m K kd h p c (s.oB q n) h') (kc (CL mx) (rl (CL mx) (f+2)).run lp (adg mx) ⟨b9 (.pto p 0) v1 (.pto q3 0) (.int 18446744073709551615 (n:Int)) v10 v20 v47 v56 v66,h⟩ (kcE (CL mx) []) (kcQ (CL mx) [])):=by
 refine wEq (ahY ..) ?_;refine num4 R h3 h30 (f+1) fun h1 v47 R1 n1 f1=>?_
 have e1:ab h1 q3=some (.cells (stC q wv bs) y3):=by rw [f1 _ (by rw [h30];decide)];exact h3
 generalize hS1:(if s.code=0∧ ¬(q.mn≤n∧n≤q.mx) then s.cd 210 s.last else s)=s1 at R1
 have w1:s1.slots=s.slots∧s1.stack=s.stack:=by
  rw [←hS1]
  split
  ·unfold PR.cd;split<;>exact ⟨rfl,rfl⟩
  ·exact ⟨rfl,rfl⟩
 refine wEq (aix ..) ?_;refine num6 R1 (n:=n) e1 h30 (by rw [w1.1];exact hb) fun h2 v56 R2 n2 f2=>?_
 generalize hS2:(if 0≤q.b then {s1 with slots:=s1.slots.set q.b.toNat n} else s1)=s2 at R2
 have w2:s2.stack=s.stack:=by rw [←hS2];split<;>exact w1.2
 refine num7 R2 (by rw [w2];exact hs) hlen hkids (n:=n) hmn (by omega) f fun h' v66 nx=>?_
 simp only [sy,A7,seval,aac];refine Ends.mk ⟨rfl,?_⟩;unfold PR.oB;rw [hS1];show Nx n0 m K kd h p c (if (if 0≤q.b then {s1 with slots:=s1.slots.set q.b.toNat n} else s1).code=0 then _ else _) h';rw [hS2];exact Nx.pre ⟨by omega,fun i hi h0=>⟨by rw [f2 i (by rw [h0];decide),f1 i (by rw [h0];decide)],h0⟩⟩ nx
end
section
variable {mx:Int} {m:Nat} {K:RC} {kd:Nat→Nat} {h:AH} {p:Nat} {c:PC} {s:PR}
theorem oW (c:PC) (s:PR):(s.open_ c).stack= .nd 0 false [] []::s.stack:=rfl
theorem pc (c:PC) (s:PR):(s.open_ c).slots=s.slots:=by
 unfold PR.open_ PR.cd
 split
 ·split<;>rfl
 ·split
  ·split<;>rfl
  ·rfl
theorem ab1 (c:PC) (s:PR):(s.open_ c).counts=s.counts:=by
 unfold PR.open_ PR.cd
 split
 ·split<;>rfl
 ·split
  ·split<;>rfl
  ·rfl
theorem uQ (c:PC) (s:PR) (n a:Nat):(s.take c n a).2.slots=s.slots∧(s.take c n a).2.stack=s.stack∧(s.take c n a).1.length≤n:=by
 unfold PR.take PR.cd
 split
 ·split<;>exact ⟨rfl,rfl,Cm _⟩
 ·split
  ·split<;>exact ⟨rfl,rfl,Cm _⟩
  ·exact ⟨rfl,rfl,by rw [Bq];omega⟩
theorem acu (c:PC) (s:PR) (n a:Nat) (hb: ∀b∈c.data,b<256): ∀b∈(s.take c n a).1,b<256:=by
 unfold PR.take
 split
 ·intro b hb';simp at hb'
 ·split
  ·intro b hb';simp at hb'
  ·intro b hb';exact hb b (BY (BX hb'))
theorem aiZ (R:RS m K kd h p c s) (W:Wf c s) (W1:Wf c (s.open_ c)) {q:PS} {wv:AV} {bs:List AV} (hbs:(stC q wv bs).length=265) (hpl:aO (stC q wv bs)=true) (hk:(q.kind=3∧1≤q.a∧q.a≤8)∨(q.kind=4∧False)) (hb:q.b<(s.slots.length:Int))
 {u:PT} {r:List PT} (hs:s.stack=u::r) (hlen:r.length≤90000) (hkids: ∀n b d ks,u= .nd n b d ks→ks.length≤90000∧d=[]) (f:Nat):
 aL (fun x h'=>x= .tup []∧Nx h.length m K kd h p c (s.number c q) h') ((rl (CL mx) (f+40)).run 196 [.pto p 0,.agg (stC q wv bs)] h):=by
 refine aL.runs (n:=f+39) (aoK mx _ _ _ _ _) ?_;have hz:=aD h (some (Blk.cells (stC q wv bs) (349+1)));have R0:=R.grow (h':=h++[some (Blk.cells (stC q wv bs) (349+1))]) (by simp) (fun i hi=>ak hi _);have bx: ∀κ:Ka,fQ (349+1) (.agg (stC q wv bs)) h κ=κ (.pto h.length 0) (h++[some (Blk.cells (stC q wv bs) (349+1))]):=fun κ=>by rw [dK];rfl
 have fz: ∀i,i<h.length→ab (h++[some (Blk.cells (stC q wv bs) (349+1))]) i=ab h i:=fun i hi=>ak hi _
 have hl0:(h++[some (Blk.cells (stC q wv bs) (349+1))]).length=h.length+1:=by simp
 have k0:dF kd h.length 0 h.length=0:=iY (A9 _);have f0:h.length≤(h++[some (Blk.cells (stC q wv bs) (349+1))]).length∧ ∀i,i<h.length→kd i=0→ab (h++[some (Blk.cells (stC q wv bs) (349+1))]) i=ab h i∧dF kd h.length 0 i=0:=⟨by omega,fun i hi h0=>⟨fz i hi,by rw [cF hi];exact h0⟩⟩;refine wEq (ahr ..) ?_;refine wEq (bx _) ?_
 generalize h++[some (Blk.cells (stC q wv bs) (349+1))]=h0 at*
 refine wEq (cZ (cs:=[.int 18446744073709551615 0,.bool false,.aa,.aa]) (by kernel_rfl)) ?_;refine cy (kF R0 W (f+37)).call ?_;rintro x h1 ⟨rfl,kd1,R1,l1,f1⟩;have e1:=f1 h.length (by omega) k0;have hz1:ab h1 h.length=some (.cells (stC q wv bs) (349+1)):=by rw [e1.1];exact hz
 have okc:=gd (mx:=mx) R1 (f+38);have fx1:h.length≤h1.length∧ ∀i,i<h.length→kd i=0→ab h1 i=ab h i∧kd1 i=0:=⟨by omega,fun i hi hi0=>by
  have a:=f0.2 i hi hi0;have b:=f1 i (by omega) a.2;exact ⟨b.1.trans a.1,b.2⟩⟩
 have hst1:=oW c s;have hsl1:=pc c s;have hnum:s.number c q=if (s.open_ c).code≠0 then s.open_ c else (if q.kind=3 then (({s.open_ c with last:=(s.open_ c).at_}:PR).take c q.a.toNat (s.open_ c).at_).2.oB q (mU q.flag (({s.open_ c with last:=(s.open_ c).at_}:PR).take c q.a.toNat (s.open_ c).at_).1) else (({s.open_ c with last:=(s.open_ c).at_}:PR).u9 c q.flag 12 0 0).2.oB q (({s.open_ c with last:=(s.open_ c).at_}:PR).u9 c q.flag 12 0 0).1):=rfl
 rw [hnum]
 generalize s.open_ c=s1 at*
 by_cases hc:s1.code≠0
 ·rw [if_pos hc]
  simp only [sy,A7,seval,okc,decide_eq_false hc,aac];exact Ends.mk ⟨rfl,kd1,R1,fx1.1,fx1.2⟩
 ·rw [if_neg hc]
  have hc':s1.code=0:=by omega
  obtain ⟨stp,y,sl,st,ct,cl,QQ,hp,o2,o3,ok,o4,o5⟩:=R1.ex;have hp':=hp;unfold rdL at hp';simp only [sy,A7,seval,okc,decide_eq_true hc',hp',n64];obtain ⟨s2,hs2⟩: ∃s2,s2=({s1 with last:=s1.at_}:PR):=⟨_,rfl⟩;obtain ⟨h2,hh2⟩: ∃h2,h2=h1.set p (some (.cells (rdL K c s2 stp sl st ct cl) y)):=⟨_,rfl⟩;have R2:RS m K kd1 h2 p c s2:=by subst hh2;subst hs2;exact R1.upd (s':={s1 with last:=s1.at_}) (stp':=stp) (y':=y) o2 o3 ok o4 o5
  have W2:Wf c s2:=by subst hs2;exact ⟨W1.at_,W1.at_,W1.parts,W1.dep,W1.stk⟩
  have hz2:ab h2 h.length=some (.cells (stC q wv bs) (349+1)):=by rw [hh2,ae (R1.iV e1.2)];exact hz1
  have fx2:h.length≤h2.length∧ ∀i,i<h.length→kd i=0→ab h2 i=ab h i∧kd1 i=0:=⟨by rw [hh2,Bb];exact fx1.1,fun i hi hi0=>⟨by rw [hh2,ae (R1.iV (fx1.2 i hi hi0).2)];exact (fx1.2 i hi hi0).1,(fx1.2 i hi hi0).2⟩⟩
  have hl2:h.length<h2.length:=by rw [hh2,Bb];omega
  have a2:s2.at_=s1.at_:=by rw [hs2]
  have sst:s2.stack= .nd 0 false [] []::u::r:=by rw [hs2];exact hst1.trans (by rw [hs])
  have ssl:s2.slots=s.slots:=by rw [hs2];exact hsl1
  rw [←hs2];have hh3:=hh2;rw [hs2] at hh3;unfold rdL at hh3;simp only [n64] at hh3;rw [←hh3];clear hh3;rw [←a2];have hk1:=e1.2;have ml:=R.ml;have fin: ∀{s':PR} {kd3:Nat→Nat} {h3 h':AH},h2.length≤h3.length→(∀i,i<h2.length→kd1 i=0→ab h3 i=ab h2 i∧kd3 i=0)→Nx h.length m K kd3 h3 p c s' h'→Nx h.length m K kd h p c s' h':=fun l3 f3 nx=>by
   refine Nx.pre ⟨by omega,fun i hi h0=>?_⟩ nx;have x1:=fx2.2 i hi h0;have x2:=f3 i (by omega) x1.2;exact ⟨x2.1.trans x1.1,x2.2⟩
  rcases hk with ⟨k3,ka,kb⟩|⟨k4,kf⟩
  ·rw [if_pos k3]
   have g3:decide ((q.kind:Int)=3)=true:=by rw [decide_eq_true_iff];omega
   obtain ⟨j,hj⟩:=Int.eq_ofNat_of_zero_le (show 0≤q.a by omega);have w1:aQ 18446744073709551615 (j:Int)=(j:Int):=gv (by omega) (by omega);rw [show q.a.toNat=j by omega];obtain ⟨x,h3,el,T⟩:=aL.call (C:=CL mx) (rY (mx:=mx) R2 W2 (n:=j) (a:=s2.at_) (by omega) W2.at_ (f+37));have tk:=uQ c s2 j s2.at_;have tb:=acu c s2 j s2.at_ R.byt;obtain ⟨kd3,b0,hd,R3,l3,f3,_⟩:=T;have e3:=f3 h.length hl2 hk1;have hz3:ab h3 h.length=some (.cells (stC q wv bs) (349+1)):=e3.1.trans hz2;obtain ⟨z,h4,el2,ez,e4⟩:=aL.call (C:=CL mx) (ans (mx:=mx) (flag:=q.flag) hd (by omega) tb (f+28));rw [ez,e4] at el2;have lth:AV.lt (ag h3) (.pto h.length 3)=true:=by rw [fE,ah,decide_eq_true_iff];omega
   have gf:ab (aN (ag h3) h2) h.length=some (.cells (stC q wv bs) (349+1)):=by rw [qW (by omega) (by rw [ah];omega)];exact hz2
   have gl:decide (h2.length≤h3.length)=true:=decide_eq_true l3;obtain ⟨stp2,y2,sl2,st2,ct2,cl2,QQ2,hp2,_⟩:=R2.ex;unfold rdL at hp2;simp only [sy,A7,seval,agW,ahn,jx,lj,jZ,hz2,iL,g3,hj,w1,hp2,n64,el,hz3,el2,nj,o1,sH,sG,pF,pf,adZ,adS,ep,gf,eM,lth,CY,ja,gl];obtain ⟨x,h',E,ex,nx⟩:=asm (mx:=mx) (lp:=(rl (CL mx) (f+39)).lp) (v1:=.agg (stC q wv bs)) (v10:=.bool false) (v20:=.bool true) (v47:=.bot) (v56:=.bot) (v66:=.bot) (n:=mU q.flag (s2.take c j s2.at_).1) R3 hz3 e3.2 (by rw [tk.1,ssl];exact hb) (tk.2.1.trans sst) hlen hkids ml (by omega) (f+37);exact ⟨x,h',E,ex,fin l3 f3 nx⟩
  ·exact kf.elim
end
noncomputable section
def fR (v0 v1 t k v5 d v9 l:AV):Tm:=(.nd 5 (.nd 3 (.nd 1 (.lf 0 v0) (.lf 1 v1)) (.nd 4 (.lf 3 t) (.lf 4 k))) (.nd 9 (.nd 6 (.lf 5 v5) (.lf 6 d)) (.nd 29 (.lf 9 v9) (.lf 29 l))))
def acn (mx:Int):K:=kAt [] (kOf (CL mx) 198)
def alv (mx:Int):K:=kAt [1,1,0] (kOf (CL mx) 198)
def ap0 (mx:Int):K:=kAt [1,1,1] (kOf (CL mx) 198)
def alI (mx:Int):K:=kAt [1,1,1,0] (kOf (CL mx) 198)
def akm (mx:Int):K:=kAt [1,1,1,1] (kOf (CL mx) 198)
section
set_option maxRecDepth 100000
variable (mx:Int) (run:Run) (lp:Lp) (κn:Kt) (κx:Ex→Kt) (h:AH) (v0 v1 t k v5 d v9 l:AV)
theorem ahS:kc (CL mx) run lp (acn mx) ⟨fR v0 v1 t k v5 d v9 l,h⟩ κn κx=fQ 350 v1 h (fun a0 h=>aj 1 a0 h (fun a1 h=>ao a1 h (fun a2 h=>cmp ilt a2 (.int 9223372036854775807 0) h (fun a3 h=>bJ a3 (aj 7 a0 h (fun a4 h=>ao a4 h (fun a5 h=>κx .ret ⟨fR v0 v1 a0 a5 v5 d a3 l,h⟩))) (kc (CL mx) run lp (alv mx) ⟨fR v0 v1 a0 (.int 18446744073709551615 0) v5 d a3 l,h⟩ (fun s=>kc (CL mx) run lp (ap0 mx) s κn κx) κx))))):=by kernel_rfl
theorem ahz:kc (CL mx) run lp (alv mx) ⟨fR v0 v1 t k v5 d v9 l,h⟩ κn κx=aj 6 t h (fun a0 h=>ao a0 h (fun a1 h=>aM v0 h (fun a2 h=>aj 14 a2 h (fun a3 h=>ao a3 h (fun a4 h=>aj 1 t h (fun a5 h=>ao a5 h (fun a6 h=>bM 1 a4 a6 h (fun a7 h=>ao a7 h (fun a8 h=>aj 7 t h (fun a9 h=>ao a9 h (fun a10 h=>aP (fun a11 h1=>bq (Nat.ble (ag h) (ag h1)) ((fun h=>fu 0 a11 h (fun a12 h=>fu 1 a11 h (fun a13 h=>κn ⟨fR v0 v1 t k a12 a13 v9 l,h⟩))) h1) none) (aH (CL mx) run 208 [a1,a8,a10] h)))))))))))):=(cA (C:=CL mx) (ops:=opsOf (cAt [1,1,0] (bS (CL mx) 198))) (ps:=[0,1,3,4,5,6,9,29]) (by kernel_rfl) (by kernel_rfl) _ _ _).trans (by kernel_rfl)
theorem ahc:kc (CL mx) run lp (ap0 mx) ⟨fR v0 v1 t k v5 d v9 l,h⟩ κn κx=kc (CL mx) run lp (alI mx) ⟨fR v0 v1 t k v5 d v9 l,h⟩ (fun s=>kc (CL mx) run lp (akm mx) s κn κx) κx:=by kernel_rfl
theorem aik:kc (CL mx) run lp (alI mx) ⟨fR v0 v1 t k v5 d v9 l,h⟩ κn κx=cmp ine d (.int 9223372036854775807 0) h (fun a0 h=>bJ a0 (aM v0 h (fun a1 h=>aj 10 a1 h (fun a2 h=>ao a2 h (fun a3 h=>aP (fun a4 h=>κn ⟨fR v0 v1 t k v5 d v9 a0,h⟩) (aH (CL mx) run 138 [v0,d,a3] h))))) (κn ⟨fR v0 v1 t k v5 d v9 a0,h⟩)):=by kernel_rfl
theorem ahg:kc (CL mx) run lp (akm mx) ⟨fR v0 v1 t k v5 d v9 l,h⟩ κn κx=κx .ret ⟨fR v0 v1 t v5 v5 d v9 l,h⟩:=by kernel_rfl
theorem aaB:kcE (CL mx) [.tmp 4] ⟨fR v0 v1 t k v5 d v9 l,h⟩=some (.vh k h):=(bW _ _ _).trans (by kernel_rfl)
theorem arl:dz (CL mx) 198=some ⟨acn mx,[0,1,3,4,5,6,9,29],38,[.tmp 4]⟩:=by kernel_rfl
end
theorem ap4 (mx:Int) (run:Run) (lp:Lp) (x0 x1:AV) (h:AH):dk (CL mx) run lp 198 [x0,x1] h=vhO (kc (CL mx) run lp (acn mx) ⟨fR x0 x1 .bot .bot .bot .bot .bot .bot,h⟩ (kcE (CL mx) [.tmp 4]) (kcQ (CL mx) [.tmp 4])):=(bV (by kernel_rfl) (arl mx) (by kernel_rfl)).trans (by kernel_rfl)
def vU (v0 v1 v2 d v7 u v9 v:AV):Tm:=(.nd 7 (.nd 2 (.nd 1 (.lf 0 v0) (.lf 1 v1)) (.nd 6 (.lf 2 v2) (.lf 6 d))) (.nd 9 (.nd 8 (.lf 7 v7) (.lf 8 u)) (.nd 17 (.lf 9 v9) (.lf 17 v))))
def acJ (mx:Int):K:=kAt [] (kOf (CL mx) 208)
section
set_option maxRecDepth 100000
variable (mx:Int) (run:Run) (lp:Lp) (κn:Kt) (κx:Ex→Kt) (h:AH) (v0 v1 v2 d v7 u v9 v:AV)
theorem aha:kc (CL mx) run lp (acJ mx) ⟨vU v0 v1 v2 d v7 u v9 v,h⟩ κn κx=aP (fun a0 h=>fu 0 a0 h (fun a1 h=>fu 1 a0 h (fun a2 h=>cmp ine a2 (.int 9223372036854775807 0) h (fun a3 h=>bJ a3 (κx .ret ⟨vU v0 v1 v2 (.int 18446744073709551615 0) a2 a1 a2 a3,h⟩) (aP (fun a4 h=>fu 0 a4 h (fun a5 h=>fu 1 a4 h (fun a6 h=>κx .ret ⟨vU v0 v1 v2 a5 a6 a1 a2 a3,h⟩))) (aH (CL mx) run 254 [a1,v2] h)))))) (aH (CL mx) run 253 [v0,v1] h):=by kernel_rfl
theorem amZ:kcE (CL mx) [.tmp 6,.tmp 7] ⟨vU v0 v1 v2 d v7 u v9 v,h⟩=some (.vh (.tup [d,v7]) h):=(bW _ _ _).trans (by kernel_rfl)
theorem asZ:dz (CL mx) 208=some ⟨acJ mx,[0,1,2,6,7,8,9,17],24,[.tmp 6,.tmp 7]⟩:=by kernel_rfl
end
theorem anp (mx:Int) (run:Run) (lp:Lp) (x0 x1 x2:AV) (h:AH):dk (CL mx) run lp 208 [x0,x1,x2] h=vhO (kc (CL mx) run lp (acJ mx) ⟨vU x0 x1 x2 .bot .bot .bot .bot .bot,h⟩ (kcE (CL mx) [.tmp 6,.tmp 7]) (kcQ (CL mx) [.tmp 6,.tmp 7])):=(bV (by kernel_rfl) (asZ mx) (by kernel_rfl)).trans (by kernel_rfl)
def awf:=Du @aha (@amZ)
def vj (v0 v1 k v5 d v7 o:AV):Tm:=(.nd 5 (.nd 1 (.lf 0 v0) (.nd 4 (.lf 1 v1) (.lf 4 k))) (.nd 7 (.nd 6 (.lf 5 v5) (.lf 6 d)) (.nd 15 (.lf 7 v7) (.lf 15 o))))
def acz (mx:Int):K:=kAt [] (kOf (CL mx) 253)
section
set_option maxRecDepth 100000
variable (mx:Int) (run:Run) (lp:Lp) (κn:Kt) (κx:Ex→Kt) (h:AH) (v0 v1 k v5 d v7 o:AV)
theorem ahZ:kc (CL mx) run lp (acz mx) ⟨vj v0 v1 k v5 d v7 o,h⟩ κn κx=aP (fun a0 h=>fu 0 a0 h (fun a1 h=>fu 1 a0 h (fun a2 h=>cmp igt a1 (.int 18446744073709551615 0) h (fun a3 h=>bJ a3 (κx .ret ⟨vj v0 v1 (.int 18446744073709551615 0) (.int 9223372036854775807 40) a1 a2 a3,h⟩) (κx .ret ⟨vj v0 v1 a2 (.int 9223372036854775807 0) a1 a2 a3,h⟩))))) (aH (CL mx) run 296 [v0,v1] h):=by kernel_rfl
theorem amo:kcE (CL mx) [.tmp 4,.tmp 5] ⟨vj v0 v1 k v5 d v7 o,h⟩=some (.vh (.tup [k,v5]) h):=(bW _ _ _).trans (by kernel_rfl)
theorem asy:dz (CL mx) 253=some ⟨acz mx,[0,1,4,5,6,7,15],17,[.tmp 4,.tmp 5]⟩:=by kernel_rfl
end
theorem al1 (mx:Int) (run:Run) (lp:Lp) (x0 x1:AV) (h:AH):dk (CL mx) run lp 253 [x0,x1] h=vhO (kc (CL mx) run lp (acz mx) ⟨vj x0 x1 .bot .bot .bot .bot .bot,h⟩ (kcE (CL mx) [.tmp 4,.tmp 5]) (kcQ (CL mx) [.tmp 4,.tmp 5])):=(bV (by kernel_rfl) (asy mx) (by kernel_rfl)).trans (by kernel_rfl)
def awh:=Du @ahZ (@amo)
def vb (v0 v1 k v5 d v7 o:AV):Tm:=(.nd 5 (.nd 1 (.lf 0 v0) (.nd 4 (.lf 1 v1) (.lf 4 k))) (.nd 7 (.nd 6 (.lf 5 v5) (.lf 6 d)) (.nd 15 (.lf 7 v7) (.lf 15 o))))
def acx (mx:Int):K:=kAt [] (kOf (CL mx) 254)
section
set_option maxRecDepth 100000
variable (mx:Int) (run:Run) (lp:Lp) (κn:Kt) (κx:Ex→Kt) (h:AH) (v0 v1 k v5 d v7 o:AV)
theorem aiP:kc (CL mx) run lp (acx mx) ⟨vb v0 v1 k v5 d v7 o,h⟩ κn κx=aP (fun a0 h=>fu 0 a0 h (fun a1 h=>fu 1 a0 h (fun a2 h=>cmp igt a2 (.int 18446744073709551615 0) h (fun a3 h=>bJ a3 (κx .ret ⟨vb v0 v1 (.int 18446744073709551615 0) (.int 9223372036854775807 40) a1 a2 a3,h⟩) (κx .ret ⟨vb v0 v1 a1 (.int 9223372036854775807 0) a1 a2 a3,h⟩))))) (aH (CL mx) run 297 [v0,v1,(.int 18446744073709551615 0)] h):=by kernel_rfl
theorem aoo:kcE (CL mx) [.tmp 4,.tmp 5] ⟨vb v0 v1 k v5 d v7 o,h⟩=some (.vh (.tup [k,v5]) h):=(bW _ _ _).trans (by kernel_rfl)
theorem aqL:dz (CL mx) 254=some ⟨acx mx,[0,1,4,5,6,7,15],17,[.tmp 4,.tmp 5]⟩:=by kernel_rfl
end
theorem ajK (mx:Int) (run:Run) (lp:Lp) (x0 x1:AV) (h:AH):dk (CL mx) run lp 254 [x0,x1] h=vhO (kc (CL mx) run lp (acx mx) ⟨vb x0 x1 .bot .bot .bot .bot .bot,h⟩ (kcE (CL mx) [.tmp 4,.tmp 5]) (kcQ (CL mx) [.tmp 4,.tmp 5])):=(bV (by kernel_rfl) (aqL mx) (by kernel_rfl)).trans (by kernel_rfl)
def avq:=Du @aiP (@aoo)
def za (v0 v1 k v5 d v7 u v9 v10 v11 w z:AV):Tm:=(.nd 8 (.nd 5 (.nd 1 (.lf 0 v0) (.nd 4 (.lf 1 v1) (.lf 4 k))) (.nd 6 (.lf 5 v5) (.nd 7 (.lf 6 d) (.lf 7 v7)))) (.nd 11 (.nd 9 (.lf 8 u) (.nd 10 (.lf 9 v9) (.lf 10 v10))) (.nd 12 (.lf 11 v11) (.nd 13 (.lf 12 w) (.lf 13 z)))))
def adR (mx:Int):K:=kAt [] (kOf (CL mx) 296)
section
set_option maxRecDepth 100000
variable (mx:Int) (run:Run) (lp:Lp) (κn:Kt) (κx:Ex→Kt) (h:AH) (v0 v1 k v5 d v7 u v9 v10 v11 w z:AV)
theorem ajt:kc (CL mx) run lp (adR mx) ⟨za v0 v1 k v5 d v7 u v9 v10 v11 w z,h⟩ κn κx=pS 18446744073709551615 18446744073709551615 Nat.land v0 (.int 18446744073709551615 4294967295) h (fun a0 h=>tx 18446744073709551615 64 v0 (.int 18446744073709551615 32) h (fun a1 h=>pS 18446744073709551615 18446744073709551615 Nat.land v1 (.int 18446744073709551615 4294967295) h (fun a2 h=>tx 18446744073709551615 64 v1 (.int 18446744073709551615 32) h (fun a3 h=>arith mL a0 a2 h (fun a4 h=>arith mL a1 a2 h (fun a5 h=>tx 18446744073709551615 64 a4 (.int 18446744073709551615 32) h (fun a6 h=>arith cg a5 a6 h (fun a7 h=>pS 18446744073709551615 18446744073709551615 Nat.land a7 (.int 18446744073709551615 4294967295) h (fun a8 h=>tx 18446744073709551615 64 a7 (.int 18446744073709551615 32) h (fun a9 h=>arith mL a0 a3 h (fun a10 h=>arith cg a8 a10 h (fun a11 h=>arith mL a1 a3 h (fun a12 h=>arith cg a12 a9 h (fun a13 h=>tx 18446744073709551615 64 a11 (.int 18446744073709551615 32) h (fun a14 h=>arith cg a13 a14 h (fun a15 h=>arith mL v0 v1 h (fun a16 h=>κx .ret ⟨za v0 v1 a15 a16 a0 a1 a2 a3 a4 a7 a11 a9,h⟩))))))))))))))))):=by kernel_rfl
theorem anZ:kcE (CL mx) [.tmp 4,.tmp 5] ⟨za v0 v1 k v5 d v7 u v9 v10 v11 w z,h⟩=some (.vh (.tup [k,v5]) h):=(bW _ _ _).trans (by kernel_rfl)
theorem aqH:dz (CL mx) 296=some ⟨adR mx,[0,1,4,5,6,7,8,9,10,11,12,13],51,[.tmp 4,.tmp 5]⟩:=by kernel_rfl
end
theorem apT (mx:Int) (run:Run) (lp:Lp) (x0 x1:AV) (h:AH):dk (CL mx) run lp 296 [x0,x1] h=vhO (kc (CL mx) run lp (adR mx) ⟨za x0 x1 .bot .bot .bot .bot .bot .bot .bot .bot .bot .bot,h⟩ (kcE (CL mx) [.tmp 4,.tmp 5]) (kcQ (CL mx) [.tmp 4,.tmp 5])):=(bV (by kernel_rfl) (aqH mx) (by kernel_rfl)).trans (by kernel_rfl)
end
section
variable {mx:Int} {m:Nat} {K:RC} {kd:Nat→Nat} {h:AH} {p:Nat} {c:PC} {s:PR}
theorem zF (x:Nat) (hx:x<18446744073709551616) (f:Nat):aH (CL mx) (rl (CL mx) (f+1)).run 296 [.int 18446744073709551615 1,.int 18446744073709551615 (x:Int)] h=some (.tup [.int 18446744073709551615 0,.int 18446744073709551615 (x:Int)],h):=by
 have g:aL (fun r h'=>r= .tup [.int 18446744073709551615 0,.int 18446744073709551615 (x:Int)]∧h'=h) ((rl (CL mx) (f+1)).run 296 [.int 18446744073709551615 1,.int 18446744073709551615 (x:Int)] h):=by
  refine aL.runs (n:=f) (apT mx _ _ _ _ _) ?_;have l1:Nat.land (toU 18446744073709551615 1) (toU 18446744073709551615 4294967295)=1:=by decide
  have l2:Nat.land (toU 18446744073709551615 (x:Int)) (toU 18446744073709551615 4294967295)=x%4294967296:=by
   rw [qg (by omega),show toU 18446744073709551615 4294967295=2^32-1 from by decide];show x&&&(2^32-1)=_;rw [CB]
  have s1: ∀(h:AH) (κ:Ka),tx 18446744073709551615 64 (.int 18446744073709551615 1) (.int 18446744073709551615 32) h κ=κ (.int 18446744073709551615 0) h:=fun h κ=>by kernel_rfl
  have s2: ∀(y:Nat) (h:AH) (κ:Ka),tx 18446744073709551615 64 (.int 18446744073709551615 (y:Int)) (.int 18446744073709551615 32) h κ=κ (.int 18446744073709551615 ((y/4294967296:Nat):Int)) h:=fun y h κ=>by
   rw [asL _ (by omega) (by omega)];rfl
  have u1:aQ 18446744073709551615 ((1:Nat):Int)=1:=by decide
  have u2:aQ 18446744073709551615 ((x%4294967296:Nat):Int)=((x%4294967296:Nat):Int):=dO (by omega);have u3:aQ 18446744073709551615 ((x/4294967296:Nat):Int)=((x/4294967296:Nat):Int):=dO (by omega);have u4:aQ 18446744073709551615 (x:Int)=(x:Int):=dO (by omega);have u5:aQ 18446744073709551615 0=0:=by decide
  have d1:x%4294967296/4294967296=0:=by omega
  have d2:x/4294967296/4294967296=0:=by omega
  have l3:Nat.land (toU 18446744073709551615 0) (toU 18446744073709551615 4294967295)=0:=by decide
  have s3: ∀(h:AH) (κ:Ka),tx 18446744073709551615 64 (.int 18446744073709551615 0) (.int 18446744073709551615 32) h κ=κ (.int 18446744073709551615 0) h:=fun h κ=>by kernel_rfl
  have z0:((0:Nat):Int)=0:=rfl;simp only [sy,A7,Nat.reduceAdd,Nat.reduceMul,Nat.reduceSub,Nat.reduceLeDiff,Nat.reduceEqDiff,Nat.reduceLT,reduceIte,ajt,yY,l1,l2,l3,s1,s2,s3,u1,u2,u3,u4,u5,Int.one_mul,Int.zero_mul,Int.add_zero,Int.zero_add,d1,d2,z0,anZ];exact Ends.mk ⟨rfl,rfl⟩
 obtain ⟨r,h2,el,er,eh⟩:=aL.call (C:=CL mx) g;rw [er,eh] at el;exact el
theorem wz (x:Nat) (hx:x<18446744073709551616) (f:Nat):aH (CL mx) (rl (CL mx) (f+1)).run 297 [.int 18446744073709551615 (x:Int),.int 18446744073709551615 0,.int 18446744073709551615 0] h=some (.tup [.int 18446744073709551615 (x:Int),.int 18446744073709551615 0],h):=by
 have e:aH (CL mx) (rl (CL mx) (f+1)).run 297 [.int 18446744073709551615 (x:Int),.int 18446744073709551615 0,.int 18446744073709551615 0] h=some (.tup [.int 18446744073709551615 (.ofNat (Nat.mod (Nat.add (Nat.add x 0) 0) 18446744073709551616)),.int 18446744073709551615 (.ofNat (Nat.div (Nat.add (Nat.add x 0) 0) 18446744073709551616))],h):=by kernel_rfl
 rw [e];have e1:Nat.mod (Nat.add (Nat.add x 0) 0) 18446744073709551616=x:=Dk hx;have e2:Nat.div (Nat.add (Nat.add x 0) 0) 18446744073709551616=0:=Nat.div_eq_of_lt hx;rw [e1,e2];rfl
theorem am5 (x:Nat) (hx:x<18446744073709551616) (f:Nat):aH (CL mx) (rl (CL mx) (f+3)).run 208 [.int 18446744073709551615 1,.int 18446744073709551615 (x:Int),.int 18446744073709551615 0] h=some (.tup [.int 18446744073709551615 (x:Int),.int 9223372036854775807 0],h):=by
 have a:=fun f=>zF (mx:=mx) (h:=h) x hx f
 have b:=fun f=>wz (mx:=mx) (h:=h) x hx f
 have gt:decide ((0:Int)>0)=false:=by decide
 have ne:decide ((0:Int)≠0)=false:=by decide
 have g1:aL (fun r h'=>r= .tup [.int 18446744073709551615 (x:Int),.int 9223372036854775807 0]∧h'=h) ((rl (CL mx) (f+2)).run 253 [.int 18446744073709551615 1,.int 18446744073709551615 (x:Int)] h):=by
  refine aL.runs (n:=f+1) (al1 mx _ _ _ _ _) ?_;simp only [sy,A7,Nat.reduceAdd,Nat.reduceMul,Nat.reduceSub,Nat.reduceLeDiff,Nat.reduceEqDiff,Nat.reduceLT,reduceIte,awh,a,decide_false];exact Ends.mk ⟨rfl,rfl⟩
 have g2:aL (fun r h'=>r= .tup [.int 18446744073709551615 (x:Int),.int 9223372036854775807 0]∧h'=h) ((rl (CL mx) (f+2)).run 254 [.int 18446744073709551615 (x:Int),.int 18446744073709551615 0] h):=by
  refine aL.runs (n:=f+1) (ajK mx _ _ _ _ _) ?_;simp only [sy,A7,Nat.reduceAdd,Nat.reduceMul,Nat.reduceSub,Nat.reduceLeDiff,Nat.reduceEqDiff,Nat.reduceLT,reduceIte,avq,b,decide_false];exact Ends.mk ⟨rfl,rfl⟩
 obtain ⟨r1,h1,e1,er1,eh1⟩:=aL.call (C:=CL mx) g1;obtain ⟨r2,h2,e2,er2,eh2⟩:=aL.call (C:=CL mx) g2;rw [er1,eh1] at e1;rw [er2,eh2] at e2;have g:aL (fun r h'=>r= .tup [.int 18446744073709551615 (x:Int),.int 9223372036854775807 0]∧h'=h) ((rl (CL mx) (f+3)).run 208 [.int 18446744073709551615 1,.int 18446744073709551615 (x:Int),.int 18446744073709551615 0] h):=by
  refine aL.runs (n:=f+2) (anp mx _ _ _ _ _ _) ?_;simp only [sy,A7,Nat.reduceAdd,Nat.reduceMul,Nat.reduceSub,Nat.reduceLeDiff,Nat.reduceEqDiff,Nat.reduceLT,reduceIte,awf,e1,e2,decide_false];exact Ends.mk ⟨rfl,rfl⟩
 obtain ⟨r,h2,el,er,eh⟩:=aL.call (C:=CL mx) g;rw [er,eh] at el;exact el
theorem yu (R:RS m K kd h p c s) {q:PS} {wv:AV} {bs:List AV} (hbs:(stC q wv bs).length=265) (hpl:aO (stC q wv bs)=true) (hq:q.a<0∨(q.a<(s.slots.length:Int)∧q.mul=1∧q.add=0∧ ∀x∈s.slots,x<18446744073709551616)) (f:Nat):
 aL (fun x h'=>x= .int 18446744073709551615 ((s.many q:Nat):Int)∧h.length≤h'.length∧ ∀i,i<h.length→ab h' i=ab h i) ((rl (CL mx) (f+4)).run 198 [.pto p 0,.agg (stC q wv bs)] h):=by
 refine aL.runs (n:=f+3) (ap4 mx _ _ _ _ _) ?_;have hz:=aD h (some (Blk.cells (stC q wv bs) (349+1)));have R0:=R.grow (h':=h++[some (Blk.cells (stC q wv bs) (349+1))]) (by simp) (fun i hi=>ak hi _);have bx: ∀κ:Ka,fQ (349+1) (.agg (stC q wv bs)) h κ=κ (.pto h.length 0) (h++[some (Blk.cells (stC q wv bs) (349+1))]):=fun κ=>by rw [dK];rfl
 have fz: ∀i,i<h.length→ab (h++[some (Blk.cells (stC q wv bs) (349+1))]) i=ab h i:=fun i hi=>ak hi _
 have hl0:(h++[some (Blk.cells (stC q wv bs) (349+1))]).length=h.length+1:=by simp
 refine wEq (ahS ..) ?_;refine wEq (bx _) ?_
 generalize h++[some (Blk.cells (stC q wv bs) (349+1))]=h0 at*
 by_cases ha:q.a<0
 ·have g:decide (q.a<0)=true:=decide_eq_true ha
  have e:s.many q=q.add:=if_pos ha;simp only [sy,A7,Nat.reduceAdd,Nat.reduceMul,Nat.reduceSub,Nat.reduceLeDiff,Nat.reduceEqDiff,Nat.reduceLT,reduceIte,hz,iL,g,aaB];exact Ends.mk ⟨by rw [e],by omega,fz⟩
 ·have g:decide (q.a<0)=false:=decide_eq_false ha
  obtain ⟨h1,h2,h3,h4⟩:=hq.resolve_left ha;obtain ⟨j,hj⟩:=Int.eq_ofNat_of_zero_le (show 0≤q.a by omega);have e:s.many q=s.slots.getD j 0:=by
   unfold PR.many;rw [if_neg ha,hj];rfl
  obtain ⟨stp,y,sl,st,ct,cl,QQ,hp,o2,o3,ok,o4,o5⟩:=R0.ex;unfold rdL at hp;have hjl:j<s.slots.length:=by omega
  obtain ⟨P,b,X,ix,ld,_⟩:=uz o2 hjl 0;have hx:s.slots.getD j 0<18446744073709551616:=by
   have:s.slots.getD j 0=s.slots[j]:=by simp [Bf,hjl]
   rw [this];exact h4 _ (CE _)
  have lc:=am5 (mx:=mx) (h:=h0) (s.slots.getD j 0) hx f;have ne:decide ((0:Int)≠0)=false:=by decide
  have ble:Nat.ble (ag h0) (ag h0)=true:=by rw [cq];simp
  rw [hj] at g;simp only [sy,A7,Nat.reduceAdd,Nat.reduceMul,Nat.reduceSub,Nat.reduceLeDiff,Nat.reduceEqDiff,Nat.reduceLT,reduceIte,hz,iL,hj,h2,h3,g,ahz,ahc,aik,ahg,hp,ix,ld,show ((1:Nat):Int)=1 from rfl,show ((0:Nat):Int)=0 from rfl,lc,decide_false,ble,ne,aaB];exact Ends.mk ⟨by rw [e],by omega,fz⟩
end
noncomputable section
section
set_option maxRecDepth 100000
variable (mx:Int) (run:Run) (lp:Lp) (κn:Kt) (κx:Ex→Kt) (h:AH) (v0 v1 u x v5 v7 d e f g l n t:AV)
end
end
section
variable {mx:Int} {m:Nat} {K:RC} {kd:Nat→Nat} {h:AH} {p:Nat} {c:PC} {s:PR}
def wL (w:Nat×Nat):List AV:=[U64 w.1,N64 w.2]
def RdR (h:AH) (S:Nat→Prop) (z:Nat) (v:AV) (rows:List (List AV)):Prop:=OwR h S z v rows∨((∀r∈rows,r.length=z)∧v= .slp rows.flatten rows.length)
theorem RdR.mono {h h':AH} {S S':Nat→Prop} {z:Nat} {v:AV} {rows:List (List AV)} (r:RdR h S z v rows) (m: ∀b,b<h.length→S b→S' b∧ab h' b=ab h b):RdR h' S' z v rows:=r.imp (fun o=>o.mono m) id
theorem RdR.bG {h:AH} {S:Nat→Prop} {z:Nat} {v:AV} {rows:List (List AV)} (r:RdR h S z v rows) (h':AH) (κ:Ka):bG v h' κ=κ (.int 9223372036854775807 (rows.length:Int)) h':=by
 rcases r with r|⟨_,rfl⟩
 ·exact r.bG h' κ
 ·rfl
theorem RdR.el {h:AH} {S:Nat→Prop} {z:Nat} {v:AV} {rows:List (List AV)} (r:RdR h S z v rows) {i:Nat} {q:List AV} (hq:rows[i]? =some q): ∃P,(∀(k:Nat) (h':AH) (κ:Ka),bM z v (.int k (i:Int)) h' κ=κ P h')∧(∀κ:Ka,aF z P h κ=κ (.agg q) h)∧
 ∀(j:Nat) (c:AV),q[j]? =some c→ ∃M,(∀(h':AH) (κ:Ka),aj j P h' κ=κ M h')∧ ∀κ:Ka,ao M h κ=κ c h:=by
 rcases r with r|⟨hr,rfl⟩
 ·obtain ⟨b,_,el⟩:=r.el hq
  exact ⟨.pto b (i*z),el.idx,el.ldG,fun j c hj=>⟨.pto b (i*z+j),fun h' κ=>by rw [tR],el.ld1 j c hj⟩⟩
 ·have hi:i<rows.length:=(Bc.1 hq).1
  have hql:q.length=z:=hr q (Bg hq);obtain ⟨A,B,rfl,hA⟩:=jf hq;have hAl:A.flatten.length=i*z:=by rw [mb fun r h=>hr r (by simp [h]),hA]
  have hfl:(A++q::B).flatten.length=(A++q::B).length*z:=mb hr;refine ⟨.ptp (A++q::B).flatten (i*z),fun k h' κ=>?_,fun κ=>?_,fun j c hj=>⟨.ptp (A++q::B).flatten (i*z+j),fun h' κ=>by rw [aev],fun κ=>?_⟩⟩
  ·rw [yz,decide_eq_true hi];rfl
  ·rw [yW]
   have e0:(A++q::B).flatten=A.flatten++(q++B.flatten):=by simp
   rw [e0,←hAl,CS,←hql,C2,decide_eq_true (show A.flatten.length+q.length≤(A.flatten++(q++B.flatten)).length by simp)];rfl
  ·have hjz:j<q.length:=(Bc.1 hj).1
   have e0:(A++q::B).flatten=A.flatten++(q++B.flatten):=by simp
   have:(A++q::B).flatten[i*z+j]? =some c:=by
    rw [e0,←hAl,Bl (by omega),BK,Bj hjz,hj]
   rw [zq,this];rfl
end
end Go.Proofs.YtemmgalfdmnkoaaGreatDoor
