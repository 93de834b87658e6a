/- A reader of package scan: how many. The functions' code is printed by a program. -/
import Derived.Test.YteapfopaiocpeaaGreatDoorSg
namespace Go.Proofs.YteapfopaiocpeaaGreatDoor
set_option linter.unusedSimpArgs false
set_option linter.unusedVariables false
set_option linter.unnecessarySimpa false
set_option linter.defProp false
noncomputable section
def fD (v0 v1 v3 v4 v5 v6 v9 v29:AV):Tm:=(.nd 5 (.nd 3 (.nd 1 (.lf 0 v0) (.lf 1 v1)) (.nd 4 (.lf 3 v3) (.lf 4 v4))) (.nd 9 (.nd 6 (.lf 5 v5) (.lf 6 v6)) (.nd 29 (.lf 9 v9) (.lf 29 v29))))
def aca (mx:Int):K:=kAt [] (kOf (CL mx) 174)
def alN (mx:Int):K:=kAt [1,1,0] (kOf (CL mx) 174)
def ajG (mx:Int):K:=kAt [1,1,1] (kOf (CL mx) 174)
def amp (mx:Int):K:=kAt [1,1,1,0] (kOf (CL mx) 174)
def ahZ (mx:Int):K:=kAt [1,1,1,1] (kOf (CL mx) 174)
section
set_option maxRecDepth 100000
variable (mx:Int) (run:Run) (lp:Lp) (κn:Kt) (κx:Ex→Kt) (h:AH) (v0 v1 v3 v4 v5 v6 v9 v29:AV)
theorem ag1:kc (CL mx) run lp (aca mx) ⟨fD v0 v1 v3 v4 v5 v6 v9 v29,h⟩ κn κx=gN 309 v1 h (fun a0 h=>aj 1 a0 h (fun a1 h=>ao a1 h (fun a2 h=>cmp ilt a2 (.int 9223372036854775807 0) h (fun a3 h=>bn a3 (aj 7 a0 h (fun a4 h=>ao a4 h (fun a5 h=>κx .ret ⟨fD v0 v1 a0 a5 v5 v6 a3 v29,h⟩))) (kc (CL mx) run lp (alN mx) ⟨fD v0 v1 a0 (.int 18446744073709551615 0) v5 v6 a3 v29,h⟩ (fun s=>kc (CL mx) run lp (ajG mx) s κn κx) κx))))):=by kernel_rfl
theorem ahF:kc (CL mx) run lp (alN mx) ⟨fD v0 v1 v3 v4 v5 v6 v9 v29,h⟩ κn κx=aj 6 v3 h (fun a0 h=>ao a0 h (fun a1 h=>az v0 h (fun a2 h=>aj 14 a2 h (fun a3 h=>ao a3 h (fun a4 h=>aj 1 v3 h (fun a5 h=>ao a5 h (fun a6 h=>bL 1 a4 a6 h (fun a7 h=>ao a7 h (fun a8 h=>aj 7 v3 h (fun a9 h=>ao a9 h (fun a10 h=>aJ (fun a11 h1=>bq (Nat.ble (ag h) (ag h1)) ((fun h=>dm 0 a11 h (fun a12 h=>dm 1 a11 h (fun a13 h=>κn ⟨fD v0 v1 v3 v4 a12 a13 v9 v29,h⟩))) h1) none) (aE (CL mx) run 226 [a1,a8,a10] h)))))))))))):=(bV (C:=CL mx) (ops:=opsOf (cAt [1,1,0] (aD (CL mx) 174))) (ps:=[0,1,3,4,5,6,9,29]) (by kernel_rfl) (by kernel_rfl) _ _ _).trans (by kernel_rfl)
theorem agI:kc (CL mx) run lp (ajG mx) ⟨fD v0 v1 v3 v4 v5 v6 v9 v29,h⟩ κn κx=kc (CL mx) run lp (amp mx) ⟨fD v0 v1 v3 v4 v5 v6 v9 v29,h⟩ (fun s=>kc (CL mx) run lp (ahZ mx) s κn κx) κx:=by kernel_rfl
theorem aho:kc (CL mx) run lp (amp mx) ⟨fD v0 v1 v3 v4 v5 v6 v9 v29,h⟩ κn κx=cmp ine v6 (.int 9223372036854775807 0) h (fun a0 h=>bn a0 (az v0 h (fun a1 h=>aj 10 a1 h (fun a2 h=>ao a2 h (fun a3 h=>aJ (fun a4 h=>κn ⟨fD v0 v1 v3 v4 v5 v6 v9 a0,h⟩) (aE (CL mx) run 114 [v0,v6,a3] h))))) (κn ⟨fD v0 v1 v3 v4 v5 v6 v9 a0,h⟩)):=by kernel_rfl
theorem afW:kc (CL mx) run lp (ahZ mx) ⟨fD v0 v1 v3 v4 v5 v6 v9 v29,h⟩ κn κx=κx .ret ⟨fD v0 v1 v3 v5 v5 v6 v9 v29,h⟩:=by kernel_rfl
theorem zj:kcE (CL mx) [.tmp 4] ⟨fD v0 v1 v3 v4 v5 v6 v9 v29,h⟩=some (.vh v4 h):=(bH _ _ _).trans (by kernel_rfl)
theorem apc:cZ (CL mx) 174=some ⟨aca mx,[0,1,3,4,5,6,9,29],38,[.tmp 4]⟩:=by kernel_rfl
end
theorem aj0 (mx:Int) (run:Run) (lp:Lp) (x0 x1:AV) (h:AH):cP (CL mx) run lp 174 [x0,x1] h=vhO (kc (CL mx) run lp (aca mx) ⟨fD x0 x1 .bot .bot .bot .bot .bot .bot,h⟩ (kcE (CL mx) [.tmp 4]) (kcQ (CL mx) [.tmp 4])):=(bI (by kernel_rfl) (apc mx) (by kernel_rfl)).trans (by kernel_rfl)
def tM (v0 v1 v2 v6 v7 v8 v9 v17:AV):Tm:=(.nd 7 (.nd 2 (.nd 1 (.lf 0 v0) (.lf 1 v1)) (.nd 6 (.lf 2 v2) (.lf 6 v6))) (.nd 9 (.nd 8 (.lf 7 v7) (.lf 8 v8)) (.nd 17 (.lf 9 v9) (.lf 17 v17))))
def abG (mx:Int):K:=kAt [] (kOf (CL mx) 226)
section
set_option maxRecDepth 100000
variable (mx:Int) (run:Run) (lp:Lp) (κn:Kt) (κx:Ex→Kt) (h:AH) (v0 v1 v2 v6 v7 v8 v9 v17:AV)
theorem agv:kc (CL mx) run lp (abG mx) ⟨tM v0 v1 v2 v6 v7 v8 v9 v17,h⟩ κn κx=aJ (fun a0 h=>dm 0 a0 h (fun a1 h=>dm 1 a0 h (fun a2 h=>cmp ine a2 (.int 9223372036854775807 0) h (fun a3 h=>bn a3 (κx .ret ⟨tM v0 v1 v2 (.int 18446744073709551615 0) a2 a1 a2 a3,h⟩) (aJ (fun a4 h=>dm 0 a4 h (fun a5 h=>dm 1 a4 h (fun a6 h=>κx .ret ⟨tM v0 v1 v2 a5 a6 a1 a2 a3,h⟩))) (aE (CL mx) run 263 [a1,v2] h)))))) (aE (CL mx) run 262 [v0,v1] h):=by kernel_rfl
theorem aiN:kcE (CL mx) [.tmp 6,.tmp 7] ⟨tM v0 v1 v2 v6 v7 v8 v9 v17,h⟩=some (.vh (.tup [v6,v7]) h):=(bH _ _ _).trans (by kernel_rfl)
theorem anL:cZ (CL mx) 226=some ⟨abG mx,[0,1,2,6,7,8,9,17],24,[.tmp 6,.tmp 7]⟩:=by kernel_rfl
end
theorem ajY (mx:Int) (run:Run) (lp:Lp) (x0 x1 x2:AV) (h:AH):cP (CL mx) run lp 226 [x0,x1,x2] h=vhO (kc (CL mx) run lp (abG mx) ⟨tM x0 x1 x2 .bot .bot .bot .bot .bot,h⟩ (kcE (CL mx) [.tmp 6,.tmp 7]) (kcQ (CL mx) [.tmp 6,.tmp 7])):=(bI (by kernel_rfl) (anL mx) (by kernel_rfl)).trans (by kernel_rfl)
def arI:=And.intro @agv (@aiN)
def uP (v0 v1 v4 v5 v6 v7 v15:AV):Tm:=(.nd 5 (.nd 1 (.lf 0 v0) (.nd 4 (.lf 1 v1) (.lf 4 v4))) (.nd 7 (.nd 6 (.lf 5 v5) (.lf 6 v6)) (.nd 15 (.lf 7 v7) (.lf 15 v15))))
def acG (mx:Int):K:=kAt [] (kOf (CL mx) 262)
section
set_option maxRecDepth 100000
variable (mx:Int) (run:Run) (lp:Lp) (κn:Kt) (κx:Ex→Kt) (h:AH) (v0 v1 v4 v5 v6 v7 v15:AV)
theorem afz:kc (CL mx) run lp (acG mx) ⟨uP v0 v1 v4 v5 v6 v7 v15,h⟩ κn κx=aJ (fun a0 h=>dm 0 a0 h (fun a1 h=>dm 1 a0 h (fun a2 h=>cmp igt a1 (.int 18446744073709551615 0) h (fun a3 h=>bn a3 (κx .ret ⟨uP v0 v1 (.int 18446744073709551615 0) (.int 9223372036854775807 40) a1 a2 a3,h⟩) (κx .ret ⟨uP v0 v1 a2 (.int 9223372036854775807 0) a1 a2 a3,h⟩))))) (aE (CL mx) run 295 [v0,v1] h):=by kernel_rfl
theorem alz:kcE (CL mx) [.tmp 4,.tmp 5] ⟨uP v0 v1 v4 v5 v6 v7 v15,h⟩=some (.vh (.tup [v4,v5]) h):=(bH _ _ _).trans (by kernel_rfl)
theorem aoe:cZ (CL mx) 262=some ⟨acG mx,[0,1,4,5,6,7,15],17,[.tmp 4,.tmp 5]⟩:=by kernel_rfl
end
theorem akg (mx:Int) (run:Run) (lp:Lp) (x0 x1:AV) (h:AH):cP (CL mx) run lp 262 [x0,x1] h=vhO (kc (CL mx) run lp (acG mx) ⟨uP x0 x1 .bot .bot .bot .bot .bot,h⟩ (kcE (CL mx) [.tmp 4,.tmp 5]) (kcQ (CL mx) [.tmp 4,.tmp 5])):=(bI (by kernel_rfl) (aoe mx) (by kernel_rfl)).trans (by kernel_rfl)
def arK:=And.intro @afz (@alz)
def uA (v0 v1 v4 v5 v6 v7 v15:AV):Tm:=(.nd 5 (.nd 1 (.lf 0 v0) (.nd 4 (.lf 1 v1) (.lf 4 v4))) (.nd 7 (.nd 6 (.lf 5 v5) (.lf 6 v6)) (.nd 15 (.lf 7 v7) (.lf 15 v15))))
def ab9 (mx:Int):K:=kAt [] (kOf (CL mx) 263)
section
set_option maxRecDepth 100000
variable (mx:Int) (run:Run) (lp:Lp) (κn:Kt) (κx:Ex→Kt) (h:AH) (v0 v1 v4 v5 v6 v7 v15:AV)
theorem agP:kc (CL mx) run lp (ab9 mx) ⟨uA v0 v1 v4 v5 v6 v7 v15,h⟩ κn κx=aJ (fun a0 h=>dm 0 a0 h (fun a1 h=>dm 1 a0 h (fun a2 h=>cmp igt a2 (.int 18446744073709551615 0) h (fun a3 h=>bn a3 (κx .ret ⟨uA v0 v1 (.int 18446744073709551615 0) (.int 9223372036854775807 40) a1 a2 a3,h⟩) (κx .ret ⟨uA v0 v1 a1 (.int 9223372036854775807 0) a1 a2 a3,h⟩))))) (aE (CL mx) run 296 [v0,v1,(.int 18446744073709551615 0)] h):=by kernel_rfl
theorem amM:kcE (CL mx) [.tmp 4,.tmp 5] ⟨uA v0 v1 v4 v5 v6 v7 v15,h⟩=some (.vh (.tup [v4,v5]) h):=(bH _ _ _).trans (by kernel_rfl)
theorem anA:cZ (CL mx) 263=some ⟨ab9 mx,[0,1,4,5,6,7,15],17,[.tmp 4,.tmp 5]⟩:=by kernel_rfl
end
theorem amW (mx:Int) (run:Run) (lp:Lp) (x0 x1:AV) (h:AH):cP (CL mx) run lp 263 [x0,x1] h=vhO (kc (CL mx) run lp (ab9 mx) ⟨uA x0 x1 .bot .bot .bot .bot .bot,h⟩ (kcE (CL mx) [.tmp 4,.tmp 5]) (kcQ (CL mx) [.tmp 4,.tmp 5])):=(bI (by kernel_rfl) (anA mx) (by kernel_rfl)).trans (by kernel_rfl)
def aqn:=And.intro @agP (@amM)
def xF (v0 v1 v4 v5 v6 v7 v8 v9 v10 v11 v12 v13:AV):Tm:=(.nd 8 (.nd 5 (.nd 1 (.lf 0 v0) (.nd 4 (.lf 1 v1) (.lf 4 v4))) (.nd 6 (.lf 5 v5) (.nd 7 (.lf 6 v6) (.lf 7 v7)))) (.nd 11 (.nd 9 (.lf 8 v8) (.nd 10 (.lf 9 v9) (.lf 10 v10))) (.nd 12 (.lf 11 v11) (.nd 13 (.lf 12 v12) (.lf 13 v13)))))
def acm (mx:Int):K:=kAt [] (kOf (CL mx) 295)
section
set_option maxRecDepth 100000
variable (mx:Int) (run:Run) (lp:Lp) (κn:Kt) (κx:Ex→Kt) (h:AH) (v0 v1 v4 v5 v6 v7 v8 v9 v10 v11 v12 v13:AV)
theorem afy:kc (CL mx) run lp (acm mx) ⟨xF v0 v1 v4 v5 v6 v7 v8 v9 v10 v11 v12 v13,h⟩ κn κx=lE 18446744073709551615 18446744073709551615 Nat.land v0 (.int 18446744073709551615 4294967295) h (fun a0 h=>pO 18446744073709551615 64 v0 (.int 18446744073709551615 32) h (fun a1 h=>lE 18446744073709551615 18446744073709551615 Nat.land v1 (.int 18446744073709551615 4294967295) h (fun a2 h=>pO 18446744073709551615 64 v1 (.int 18446744073709551615 32) h (fun a3 h=>arith pV a0 a2 h (fun a4 h=>arith pV a1 a2 h (fun a5 h=>pO 18446744073709551615 64 a4 (.int 18446744073709551615 32) h (fun a6 h=>arith dX a5 a6 h (fun a7 h=>lE 18446744073709551615 18446744073709551615 Nat.land a7 (.int 18446744073709551615 4294967295) h (fun a8 h=>pO 18446744073709551615 64 a7 (.int 18446744073709551615 32) h (fun a9 h=>arith pV a0 a3 h (fun a10 h=>arith dX a8 a10 h (fun a11 h=>arith pV a1 a3 h (fun a12 h=>arith dX a12 a9 h (fun a13 h=>pO 18446744073709551615 64 a11 (.int 18446744073709551615 32) h (fun a14 h=>arith dX a13 a14 h (fun a15 h=>arith pV v0 v1 h (fun a16 h=>κx .ret ⟨xF v0 v1 a15 a16 a0 a1 a2 a3 a4 a7 a11 a9,h⟩))))))))))))))))):=by kernel_rfl
theorem alg:kcE (CL mx) [.tmp 4,.tmp 5] ⟨xF v0 v1 v4 v5 v6 v7 v8 v9 v10 v11 v12 v13,h⟩=some (.vh (.tup [v4,v5]) h):=(bH _ _ _).trans (by kernel_rfl)
theorem aog:cZ (CL mx) 295=some ⟨acm mx,[0,1,4,5,6,7,8,9,10,11,12,13],51,[.tmp 4,.tmp 5]⟩:=by kernel_rfl
end
theorem alh (mx:Int) (run:Run) (lp:Lp) (x0 x1:AV) (h:AH):cP (CL mx) run lp 295 [x0,x1] h=vhO (kc (CL mx) run lp (acm mx) ⟨xF x0 x1 .bot .bot .bot .bot .bot .bot .bot .bot .bot .bot,h⟩ (kcE (CL mx) [.tmp 4,.tmp 5]) (kcQ (CL mx) [.tmp 4,.tmp 5])):=(bI (by kernel_rfl) (aog mx) (by kernel_rfl)).trans (by kernel_rfl)
end
section
variable {mx:Int} {m:Nat} {K:RC} {kd:Nat→Nat} {h:AH} {p:Nat} {c:PC} {s:PR}
theorem xD (x:Nat) (hx:x<18446744073709551616) (f:Nat):aE (CL mx) (rl (CL mx) (f+1)).run 295 [.int 18446744073709551615 1,.int 18446744073709551615 (x:Int)] h=some (.tup [.int 18446744073709551615 0,.int 18446744073709551615 (x:Int)],h):=by
 have g:aC (fun r h'=>r= .tup [.int 18446744073709551615 0,.int 18446744073709551615 (x:Int)]∧h'=h) ((rl (CL mx) (f+1)).run 295 [.int 18446744073709551615 1,.int 18446744073709551615 (x:Int)] h):=by
  refine aC.runs (n:=f) (alh mx _ _ _ _ _) ?_
  have l1:Nat.land (toU 18446744073709551615 1) (toU 18446744073709551615 4294967295)=1:=by decide
  have l2:Nat.land (toU 18446744073709551615 (x:Int)) (toU 18446744073709551615 4294967295)=x%4294967296:=by
   rw [jz (by omega),show toU 18446744073709551615 4294967295=2^32-1 from by decide]
   show x&&&(2^32-1)=_
   rw [Nat.and_two_pow_sub_one_eq_mod]
  have s1: ∀(h:AH) (κ:Ka),pO 18446744073709551615 64 (.int 18446744073709551615 1) (.int 18446744073709551615 32) h κ=κ (.int 18446744073709551615 0) h:=fun h κ=>by kernel_rfl
  have s2: ∀(y:Nat) (h:AH) (κ:Ka),pO 18446744073709551615 64 (.int 18446744073709551615 (y:Int)) (.int 18446744073709551615 32) h κ=κ (.int 18446744073709551615 ((y/4294967296:Nat):Int)) h:=fun y h κ=>by
   rw [aez _ (by omega) (by omega)];rfl
  have u1:aM 18446744073709551615 ((1:Nat):Int)=1:=by decide
  have u2:aM 18446744073709551615 ((x%4294967296:Nat):Int)=((x%4294967296:Nat):Int):=bE (by omega)
  have u3:aM 18446744073709551615 ((x/4294967296:Nat):Int)=((x/4294967296:Nat):Int):=bE (by omega)
  have u4:aM 18446744073709551615 (x:Int)=(x:Int):=bE (by omega)
  have u5:aM 18446744073709551615 0=0:=by decide
  have d1:x%4294967296/4294967296=0:=by omega
  have d2:x/4294967296/4294967296=0:=by omega
  have l3:Nat.land (toU 18446744073709551615 0) (toU 18446744073709551615 4294967295)=0:=by decide
  have s3: ∀(h:AH) (κ:Ka),pO 18446744073709551615 64 (.int 18446744073709551615 0) (.int 18446744073709551615 32) h κ=κ (.int 18446744073709551615 0) h:=fun h κ=>by kernel_rfl
  have z0:((0:Nat):Int)=0:=rfl
  simp only [sy,List.length_append,Nat.reduceAdd,Nat.reduceMul,Nat.reduceSub,Nat.reduceLeDiff,Nat.reduceEqDiff,Nat.reduceLT,reduceIte,afy,oT,l1,l2,l3,s1,s2,s3,u1,u2,u3,u4,u5,Int.one_mul,Int.zero_mul,Int.add_zero,Int.zero_add,d1,d2,z0,alg]
  exact Ends.mk ⟨rfl,rfl⟩
 obtain ⟨r,h2,el,er,eh⟩:=aC.call (C:=CL mx) g
 rw [er,eh] at el;exact el
theorem uW (x:Nat) (hx:x<18446744073709551616) (f:Nat):aE (CL mx) (rl (CL mx) (f+1)).run 296 [.int 18446744073709551615 (x:Int),.int 18446744073709551615 0,.int 18446744073709551615 0] h=some (.tup [.int 18446744073709551615 (x:Int),.int 18446744073709551615 0],h):=by
 have e:aE (CL mx) (rl (CL mx) (f+1)).run 296 [.int 18446744073709551615 (x:Int),.int 18446744073709551615 0,.int 18446744073709551615 0] h=some (.tup [.int 18446744073709551615 (.ofNat (Nat.mod (Nat.add (Nat.add x 0) 0) 18446744073709551616)),.int 18446744073709551615 (.ofNat (Nat.div (Nat.add (Nat.add x 0) 0) 18446744073709551616))],h):=by kernel_rfl
 rw [e]
 have e1:Nat.mod (Nat.add (Nat.add x 0) 0) 18446744073709551616=x:=Nat.mod_eq_of_lt hx
 have e2:Nat.div (Nat.add (Nat.add x 0) 0) 18446744073709551616=0:=Nat.div_eq_of_lt hx
 rw [e1,e2];rfl
theorem aiw (x:Nat) (hx:x<18446744073709551616) (f:Nat):aE (CL mx) (rl (CL mx) (f+3)).run 226 [.int 18446744073709551615 1,.int 18446744073709551615 (x:Int),.int 18446744073709551615 0] h=some (.tup [.int 18446744073709551615 (x:Int),.int 9223372036854775807 0],h):=by
 have a:=fun f=>xD (mx:=mx) (h:=h) x hx f
 have b:=fun f=>uW (mx:=mx) (h:=h) x hx f
 have gt:decide ((0:Int)>0)=false:=by decide
 have ne:decide ((0:Int)≠0)=false:=by decide
 have g1:aC (fun r h'=>r= .tup [.int 18446744073709551615 (x:Int),.int 9223372036854775807 0]∧h'=h) ((rl (CL mx) (f+2)).run 262 [.int 18446744073709551615 1,.int 18446744073709551615 (x:Int)] h):=by
  refine aC.runs (n:=f+1) (akg mx _ _ _ _ _) ?_
  simp only [sy,List.length_append,Nat.reduceAdd,Nat.reduceMul,Nat.reduceSub,Nat.reduceLeDiff,Nat.reduceEqDiff,Nat.reduceLT,reduceIte,arK,a,decide_false]
  exact Ends.mk ⟨rfl,rfl⟩
 have g2:aC (fun r h'=>r= .tup [.int 18446744073709551615 (x:Int),.int 9223372036854775807 0]∧h'=h) ((rl (CL mx) (f+2)).run 263 [.int 18446744073709551615 (x:Int),.int 18446744073709551615 0] h):=by
  refine aC.runs (n:=f+1) (amW mx _ _ _ _ _) ?_
  simp only [sy,List.length_append,Nat.reduceAdd,Nat.reduceMul,Nat.reduceSub,Nat.reduceLeDiff,Nat.reduceEqDiff,Nat.reduceLT,reduceIte,aqn,b,decide_false]
  exact Ends.mk ⟨rfl,rfl⟩
 obtain ⟨r1,h1,e1,er1,eh1⟩:=aC.call (C:=CL mx) g1
 obtain ⟨r2,h2,e2,er2,eh2⟩:=aC.call (C:=CL mx) g2
 rw [er1,eh1] at e1
 rw [er2,eh2] at e2
 have g:aC (fun r h'=>r= .tup [.int 18446744073709551615 (x:Int),.int 9223372036854775807 0]∧h'=h) ((rl (CL mx) (f+3)).run 226 [.int 18446744073709551615 1,.int 18446744073709551615 (x:Int),.int 18446744073709551615 0] h):=by
  refine aC.runs (n:=f+2) (ajY mx _ _ _ _ _ _) ?_
  simp only [sy,List.length_append,Nat.reduceAdd,Nat.reduceMul,Nat.reduceSub,Nat.reduceLeDiff,Nat.reduceEqDiff,Nat.reduceLT,reduceIte,arI,e1,e2,decide_false]
  exact Ends.mk ⟨rfl,rfl⟩
 obtain ⟨r,h2,el,er,eh⟩:=aC.call (C:=CL mx) g
 rw [er,eh] at el;exact el
theorem vG (R:RS m K kd h p c s) {q:PS} {wv:AV} {bs:List AV} (hbs:(stC q wv bs).length=265) (hpl:aV (stC q wv bs)=true) (hq:q.a<0∨(q.a<(s.slots.length:Int)∧q.mul=1∧q.add=0∧ ∀x∈s.slots,x<18446744073709551616)) (f:Nat):
 aC (fun x h'=>x= .int 18446744073709551615 ((s.many q:Nat):Int)∧h.length≤h'.length∧ ∀i,i<h.length→aa h' i=aa h i) ((rl (CL mx) (f+4)).run 174 [.pto p 0,.agg (stC q wv bs)] h):=by
 refine aC.runs (n:=f+3) (aj0 mx _ _ _ _ _) ?_
 have hz:=aH h (some (Blk.cells (stC q wv bs) (308+1)))
 have R0:=R.grow (h':=h++[some (Blk.cells (stC q wv bs) (308+1))]) (by simp) (fun i hi=>ak hi _)
 have bx: ∀κ:Ka,gN (308+1) (.agg (stC q wv bs)) h κ=κ (.pto h.length 0) (h++[some (Blk.cells (stC q wv bs) (308+1))]):=fun κ=>by rw [dP];rfl
 have fz: ∀i,i<h.length→aa (h++[some (Blk.cells (stC q wv bs) (308+1))]) i=aa h i:=fun i hi=>ak hi _
 have hl0:(h++[some (Blk.cells (stC q wv bs) (308+1))]).length=h.length+1:=by simp
 refine wEq (ag1 ..) ?_
 refine wEq (bx _) ?_
 generalize h++[some (Blk.cells (stC q wv bs) (308+1))]=h0 at*
 by_cases ha:q.a<0
 ·have g:decide (q.a<0)=true:=decide_eq_true ha
  have e:s.many q=q.add:=if_pos ha
  simp only [sy,List.length_append,Nat.reduceAdd,Nat.reduceMul,Nat.reduceSub,Nat.reduceLeDiff,Nat.reduceEqDiff,Nat.reduceLT,reduceIte,hz,eA,g,zj]
  exact Ends.mk ⟨by rw [e],by omega,fz⟩
 ·have g:decide (q.a<0)=false:=decide_eq_false ha
  obtain ⟨h1,h2,h3,h4⟩:=hq.resolve_left ha
  obtain ⟨j,hj⟩:=Int.eq_ofNat_of_zero_le (show 0≤q.a by omega)
  have e:s.many q=s.slots.getD j 0:=by
   unfold PR.many
   rw [if_neg ha,hj];rfl
  obtain ⟨stp,y,sl,st,ct,cl,QQ,hp,o2,o3,ok,o4,o5⟩:=R0.ex
  unfold rdL at hp
  have hjl:j<s.slots.length:=by omega
  obtain ⟨P,b,X,ix,ld,_⟩:=oW o2 hjl 0
  have hx:s.slots.getD j 0<18446744073709551616:=by
   have:s.slots.getD j 0=s.slots[j]:=by simp [List.getD_eq_getElem?_getD,hjl]
   rw [this];exact h4 _ (List.getElem_mem _)
  have lc:=aiw (mx:=mx) (h:=h0) (s.slots.getD j 0) hx f
  have ne:decide ((0:Int)≠0)=false:=by decide
  have ble:Nat.ble (ag h0) (ag h0)=true:=by rw [bR];simp
  rw [hj] at g
  simp only [sy,List.length_append,Nat.reduceAdd,Nat.reduceMul,Nat.reduceSub,Nat.reduceLeDiff,Nat.reduceEqDiff,Nat.reduceLT,reduceIte,hz,eA,hj,h2,h3,g,ahF,agI,aho,afW,hp,ix,ld,show ((1:Nat):Int)=1 from rfl,show ((0:Nat):Int)=0 from rfl,lc,decide_false,ble,ne,zj]
  exact Ends.mk ⟨by rw [e],by omega,fz⟩
end
end Go.Proofs.YteapfopaiocpeaaGreatDoor
