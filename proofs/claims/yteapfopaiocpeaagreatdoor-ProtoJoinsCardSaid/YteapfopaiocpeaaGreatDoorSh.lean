/- A reader of package scan: how many. The functions' code is printed by a program. -/
import Derived.Test.YteapfopaiocpeaaGreatDoorSg
namespace Go.Proofs.YteapfopaiocpeaaGreatDoor
set_option linter.unusedSimpArgs false
set_option linter.unusedVariables false
set_option linter.unnecessarySimpa false
set_option linter.defProp false
noncomputable section
def fX (v0 v1 v3 v4 v5 v6 v9 v29:AV):Tm:=(.nd 5 (.nd 3 (.nd 1 (.lf 0 v0) (.lf 1 v1)) (.nd 4 (.lf 3 v3) (.lf 4 v4))) (.nd 9 (.nd 6 (.lf 5 v5) (.lf 6 v6)) (.nd 29 (.lf 9 v9) (.lf 29 v29))))
def ab9 (mx:Int):K:=kAt [] (kOf (CL mx) 174)
def alH (mx:Int):K:=kAt [1,1,0] (kOf (CL mx) 174)
def amo (mx:Int):K:=kAt [1,1,1] (kOf (CL mx) 174)
def amm (mx:Int):K:=kAt [1,1,1,0] (kOf (CL mx) 174)
def akg (mx:Int):K:=kAt [1,1,1,1] (kOf (CL mx) 174)
section
set_option maxRecDepth 100000
variable (mx:Int) (run:Run) (lp:Lp) (κn:Kt) (κx:Ex→Kt) (h:AH) (v0 v1 v3 v4 v5 v6 v9 v29:AV)
theorem afN:kc (CL mx) run lp (ab9 mx) ⟨fX v0 v1 v3 v4 v5 v6 v9 v29,h⟩ κn κx=gZ 309 v1 h (fun a0 h=>ao 1 a0 h (fun a1 h=>ar a1 h (fun a2 h=>cmp ilt a2 (.int 9223372036854775807 0) h (fun a3 h=>bG a3 (ao 7 a0 h (fun a4 h=>ar a4 h (fun a5 h=>κx .ret ⟨fX v0 v1 a0 a5 v5 v6 a3 v29,h⟩))) (kc (CL mx) run lp (alH mx) ⟨fX v0 v1 a0 (.int 18446744073709551615 0) v5 v6 a3 v29,h⟩ (fun s=>kc (CL mx) run lp (amo mx) s κn κx) κx))))):=by kernel_rfl
theorem afv:kc (CL mx) run lp (alH mx) ⟨fX v0 v1 v3 v4 v5 v6 v9 v29,h⟩ κn κx=ao 6 v3 h (fun a0 h=>ar a0 h (fun a1 h=>aC v0 h (fun a2 h=>ao 14 a2 h (fun a3 h=>ar a3 h (fun a4 h=>ao 1 v3 h (fun a5 h=>ar a5 h (fun a6 h=>bT 1 a4 a6 h (fun a7 h=>ar a7 h (fun a8 h=>ao 7 v3 h (fun a9 h=>ar a9 h (fun a10 h=>aL (fun a11 h1=>bq (Nat.ble (aj h) (aj h1)) ((fun h=>eO 0 a11 h (fun a12 h=>eO 1 a11 h (fun a13 h=>κn ⟨fX v0 v1 v3 v4 a12 a13 v9 v29,h⟩))) h1) none) (aD (CL mx) run 226 [a1,a8,a10] h)))))))))))):=(cE (C:=CL mx) (ops:=opsOf (cAt [1,1,0] (aH (CL mx) 174))) (ps:=[0,1,3,4,5,6,9,29]) (by kernel_rfl) (by kernel_rfl) _ _ _).trans (by kernel_rfl)
theorem ahN:kc (CL mx) run lp (amo mx) ⟨fX v0 v1 v3 v4 v5 v6 v9 v29,h⟩ κn κx=kc (CL mx) run lp (amm mx) ⟨fX v0 v1 v3 v4 v5 v6 v9 v29,h⟩ (fun s=>kc (CL mx) run lp (akg mx) s κn κx) κx:=by kernel_rfl
theorem ahD:kc (CL mx) run lp (amm mx) ⟨fX v0 v1 v3 v4 v5 v6 v9 v29,h⟩ κn κx=cmp ine v6 (.int 9223372036854775807 0) h (fun a0 h=>bG a0 (aC v0 h (fun a1 h=>ao 10 a1 h (fun a2 h=>ar a2 h (fun a3 h=>aL (fun a4 h=>κn ⟨fX v0 v1 v3 v4 v5 v6 v9 a0,h⟩) (aD (CL mx) run 114 [v0,v6,a3] h))))) (κn ⟨fX v0 v1 v3 v4 v5 v6 v9 a0,h⟩)):=by kernel_rfl
theorem ag0:kc (CL mx) run lp (akg mx) ⟨fX v0 v1 v3 v4 v5 v6 v9 v29,h⟩ κn κx=κx .ret ⟨fX v0 v1 v3 v5 v5 v6 v9 v29,h⟩:=by kernel_rfl
theorem aas:kcE (CL mx) [.tmp 4] ⟨fX v0 v1 v3 v4 v5 v6 v9 v29,h⟩=some (.vh v4 h):=(bJ _ _ _).trans (by kernel_rfl)
theorem am0:dp (CL mx) 174=some ⟨ab9 mx,[0,1,3,4,5,6,9,29],38,[.tmp 4]⟩:=by kernel_rfl
end
theorem aiQ (mx:Int) (run:Run) (lp:Lp) (x0 x1:AV) (h:AH):cW (CL mx) run lp 174 [x0,x1] h=vhO (kc (CL mx) run lp (ab9 mx) ⟨fX x0 x1 .bot .bot .bot .bot .bot .bot,h⟩ (kcE (CL mx) [.tmp 4]) (kcQ (CL mx) [.tmp 4])):=(bK (by kernel_rfl) (am0 mx) (by kernel_rfl)).trans (by kernel_rfl)
def ua (v0 v1 v2 v6 v7 v8 v9 v17:AV):Tm:=(.nd 7 (.nd 2 (.nd 1 (.lf 0 v0) (.lf 1 v1)) (.nd 6 (.lf 2 v2) (.lf 6 v6))) (.nd 9 (.nd 8 (.lf 7 v7) (.lf 8 v8)) (.nd 17 (.lf 9 v9) (.lf 17 v17))))
def ads (mx:Int):K:=kAt [] (kOf (CL mx) 226)
section
set_option maxRecDepth 100000
variable (mx:Int) (run:Run) (lp:Lp) (κn:Kt) (κx:Ex→Kt) (h:AH) (v0 v1 v2 v6 v7 v8 v9 v17:AV)
theorem afT:kc (CL mx) run lp (ads mx) ⟨ua v0 v1 v2 v6 v7 v8 v9 v17,h⟩ κn κx=aL (fun a0 h=>eO 0 a0 h (fun a1 h=>eO 1 a0 h (fun a2 h=>cmp ine a2 (.int 9223372036854775807 0) h (fun a3 h=>bG a3 (κx .ret ⟨ua v0 v1 v2 (.int 18446744073709551615 0) a2 a1 a2 a3,h⟩) (aL (fun a4 h=>eO 0 a4 h (fun a5 h=>eO 1 a4 h (fun a6 h=>κx .ret ⟨ua v0 v1 v2 a5 a6 a1 a2 a3,h⟩))) (aD (CL mx) run 263 [a1,v2] h)))))) (aD (CL mx) run 262 [v0,v1] h):=by kernel_rfl
theorem ajO:kcE (CL mx) [.tmp 6,.tmp 7] ⟨ua v0 v1 v2 v6 v7 v8 v9 v17,h⟩=some (.vh (.tup [v6,v7]) h):=(bJ _ _ _).trans (by kernel_rfl)
theorem aoa:dp (CL mx) 226=some ⟨ads mx,[0,1,2,6,7,8,9,17],24,[.tmp 6,.tmp 7]⟩:=by kernel_rfl
end
theorem ah7 (mx:Int) (run:Run) (lp:Lp) (x0 x1 x2:AV) (h:AH):cW (CL mx) run lp 226 [x0,x1,x2] h=vhO (kc (CL mx) run lp (ads mx) ⟨ua x0 x1 x2 .bot .bot .bot .bot .bot,h⟩ (kcE (CL mx) [.tmp 6,.tmp 7]) (kcQ (CL mx) [.tmp 6,.tmp 7])):=(bK (by kernel_rfl) (aoa mx) (by kernel_rfl)).trans (by kernel_rfl)
def aqZ:=And.intro @afT (@ajO)
def uV (v0 v1 v4 v5 v6 v7 v15:AV):Tm:=(.nd 5 (.nd 1 (.lf 0 v0) (.nd 4 (.lf 1 v1) (.lf 4 v4))) (.nd 7 (.nd 6 (.lf 5 v5) (.lf 6 v6)) (.nd 15 (.lf 7 v7) (.lf 15 v15))))
def acC (mx:Int):K:=kAt [] (kOf (CL mx) 262)
section
set_option maxRecDepth 100000
variable (mx:Int) (run:Run) (lp:Lp) (κn:Kt) (κx:Ex→Kt) (h:AH) (v0 v1 v4 v5 v6 v7 v15:AV)
theorem afu:kc (CL mx) run lp (acC mx) ⟨uV v0 v1 v4 v5 v6 v7 v15,h⟩ κn κx=aL (fun a0 h=>eO 0 a0 h (fun a1 h=>eO 1 a0 h (fun a2 h=>cmp igt a1 (.int 18446744073709551615 0) h (fun a3 h=>bG a3 (κx .ret ⟨uV v0 v1 (.int 18446744073709551615 0) (.int 9223372036854775807 40) a1 a2 a3,h⟩) (κx .ret ⟨uV v0 v1 a2 (.int 9223372036854775807 0) a1 a2 a3,h⟩))))) (aD (CL mx) run 295 [v0,v1] h):=by kernel_rfl
theorem aiR:kcE (CL mx) [.tmp 4,.tmp 5] ⟨uV v0 v1 v4 v5 v6 v7 v15,h⟩=some (.vh (.tup [v4,v5]) h):=(bJ _ _ _).trans (by kernel_rfl)
theorem aof:dp (CL mx) 262=some ⟨acC mx,[0,1,4,5,6,7,15],17,[.tmp 4,.tmp 5]⟩:=by kernel_rfl
end
theorem alf (mx:Int) (run:Run) (lp:Lp) (x0 x1:AV) (h:AH):cW (CL mx) run lp 262 [x0,x1] h=vhO (kc (CL mx) run lp (acC mx) ⟨uV x0 x1 .bot .bot .bot .bot .bot,h⟩ (kcE (CL mx) [.tmp 4,.tmp 5]) (kcQ (CL mx) [.tmp 4,.tmp 5])):=(bK (by kernel_rfl) (aof mx) (by kernel_rfl)).trans (by kernel_rfl)
def aqT:=And.intro @afu (@aiR)
def vf (v0 v1 v4 v5 v6 v7 v15:AV):Tm:=(.nd 5 (.nd 1 (.lf 0 v0) (.nd 4 (.lf 1 v1) (.lf 4 v4))) (.nd 7 (.nd 6 (.lf 5 v5) (.lf 6 v6)) (.nd 15 (.lf 7 v7) (.lf 15 v15))))
def acp (mx:Int):K:=kAt [] (kOf (CL mx) 263)
section
set_option maxRecDepth 100000
variable (mx:Int) (run:Run) (lp:Lp) (κn:Kt) (κx:Ex→Kt) (h:AH) (v0 v1 v4 v5 v6 v7 v15:AV)
theorem ahH:kc (CL mx) run lp (acp mx) ⟨vf v0 v1 v4 v5 v6 v7 v15,h⟩ κn κx=aL (fun a0 h=>eO 0 a0 h (fun a1 h=>eO 1 a0 h (fun a2 h=>cmp igt a2 (.int 18446744073709551615 0) h (fun a3 h=>bG a3 (κx .ret ⟨vf v0 v1 (.int 18446744073709551615 0) (.int 9223372036854775807 40) a1 a2 a3,h⟩) (κx .ret ⟨vf v0 v1 a1 (.int 9223372036854775807 0) a1 a2 a3,h⟩))))) (aD (CL mx) run 296 [v0,v1,(.int 18446744073709551615 0)] h):=by kernel_rfl
theorem amH:kcE (CL mx) [.tmp 4,.tmp 5] ⟨vf v0 v1 v4 v5 v6 v7 v15,h⟩=some (.vh (.tup [v4,v5]) h):=(bJ _ _ _).trans (by kernel_rfl)
theorem aos:dp (CL mx) 263=some ⟨acp mx,[0,1,4,5,6,7,15],17,[.tmp 4,.tmp 5]⟩:=by kernel_rfl
end
theorem al5 (mx:Int) (run:Run) (lp:Lp) (x0 x1:AV) (h:AH):cW (CL mx) run lp 263 [x0,x1] h=vhO (kc (CL mx) run lp (acp mx) ⟨vf x0 x1 .bot .bot .bot .bot .bot,h⟩ (kcE (CL mx) [.tmp 4,.tmp 5]) (kcQ (CL mx) [.tmp 4,.tmp 5])):=(bK (by kernel_rfl) (aos mx) (by kernel_rfl)).trans (by kernel_rfl)
def ark:=And.intro @ahH (@amH)
def xT (v0 v1 v4 v5 v6 v7 v8 v9 v10 v11 v12 v13:AV):Tm:=(.nd 8 (.nd 5 (.nd 1 (.lf 0 v0) (.nd 4 (.lf 1 v1) (.lf 4 v4))) (.nd 6 (.lf 5 v5) (.nd 7 (.lf 6 v6) (.lf 7 v7)))) (.nd 11 (.nd 9 (.lf 8 v8) (.nd 10 (.lf 9 v9) (.lf 10 v10))) (.nd 12 (.lf 11 v11) (.nd 13 (.lf 12 v12) (.lf 13 v13)))))
def abE (mx:Int):K:=kAt [] (kOf (CL mx) 295)
section
set_option maxRecDepth 100000
variable (mx:Int) (run:Run) (lp:Lp) (κn:Kt) (κx:Ex→Kt) (h:AH) (v0 v1 v4 v5 v6 v7 v8 v9 v10 v11 v12 v13:AV)
theorem afo:kc (CL mx) run lp (abE mx) ⟨xT v0 v1 v4 v5 v6 v7 v8 v9 v10 v11 v12 v13,h⟩ κn κx=mh 18446744073709551615 18446744073709551615 Nat.land v0 (.int 18446744073709551615 4294967295) h (fun a0 h=>pK 18446744073709551615 64 v0 (.int 18446744073709551615 32) h (fun a1 h=>mh 18446744073709551615 18446744073709551615 Nat.land v1 (.int 18446744073709551615 4294967295) h (fun a2 h=>pK 18446744073709551615 64 v1 (.int 18446744073709551615 32) h (fun a3 h=>arith sO a0 a2 h (fun a4 h=>arith sO a1 a2 h (fun a5 h=>pK 18446744073709551615 64 a4 (.int 18446744073709551615 32) h (fun a6 h=>arith fu a5 a6 h (fun a7 h=>mh 18446744073709551615 18446744073709551615 Nat.land a7 (.int 18446744073709551615 4294967295) h (fun a8 h=>pK 18446744073709551615 64 a7 (.int 18446744073709551615 32) h (fun a9 h=>arith sO a0 a3 h (fun a10 h=>arith fu a8 a10 h (fun a11 h=>arith sO a1 a3 h (fun a12 h=>arith fu a12 a9 h (fun a13 h=>pK 18446744073709551615 64 a11 (.int 18446744073709551615 32) h (fun a14 h=>arith fu a13 a14 h (fun a15 h=>arith sO v0 v1 h (fun a16 h=>κx .ret ⟨xT v0 v1 a15 a16 a0 a1 a2 a3 a4 a7 a11 a9,h⟩))))))))))))))))):=by kernel_rfl
theorem akn:kcE (CL mx) [.tmp 4,.tmp 5] ⟨xT v0 v1 v4 v5 v6 v7 v8 v9 v10 v11 v12 v13,h⟩=some (.vh (.tup [v4,v5]) h):=(bJ _ _ _).trans (by kernel_rfl)
theorem aor:dp (CL mx) 295=some ⟨abE mx,[0,1,4,5,6,7,8,9,10,11,12,13],51,[.tmp 4,.tmp 5]⟩:=by kernel_rfl
end
theorem ajK (mx:Int) (run:Run) (lp:Lp) (x0 x1:AV) (h:AH):cW (CL mx) run lp 295 [x0,x1] h=vhO (kc (CL mx) run lp (abE mx) ⟨xT x0 x1 .bot .bot .bot .bot .bot .bot .bot .bot .bot .bot,h⟩ (kcE (CL mx) [.tmp 4,.tmp 5]) (kcQ (CL mx) [.tmp 4,.tmp 5])):=(bK (by kernel_rfl) (aor mx) (by kernel_rfl)).trans (by kernel_rfl)
end
section
variable {mx:Int} {m:Nat} {K:RC} {kd:Nat→Nat} {h:AH} {p:Nat} {c:PC} {s:PR}
theorem yn (x:Nat) (hx:x<18446744073709551616) (f:Nat):aD (CL mx) (rl (CL mx) (f+1)).run 295 [.int 18446744073709551615 1,.int 18446744073709551615 (x:Int)] h=some (.tup [.int 18446744073709551615 0,.int 18446744073709551615 (x:Int)],h):=by
 have g:aG (fun r h'=>r= .tup [.int 18446744073709551615 0,.int 18446744073709551615 (x:Int)]∧h'=h) ((rl (CL mx) (f+1)).run 295 [.int 18446744073709551615 1,.int 18446744073709551615 (x:Int)] h):=by
  refine aG.runs (n:=f) (ajK mx _ _ _ _ _) ?_
  have l1:Nat.land (toU 18446744073709551615 1) (toU 18446744073709551615 4294967295)=1:=by decide
  have l2:Nat.land (toU 18446744073709551615 (x:Int)) (toU 18446744073709551615 4294967295)=x%4294967296:=by
   rw [jC (by omega),show toU 18446744073709551615 4294967295=2^32-1 from by decide]
   show x&&&(2^32-1)=_
   rw [Nat.and_two_pow_sub_one_eq_mod]
  have s1: ∀(h:AH) (κ:Ka),pK 18446744073709551615 64 (.int 18446744073709551615 1) (.int 18446744073709551615 32) h κ=κ (.int 18446744073709551615 0) h:=fun h κ=>by kernel_rfl
  have s2: ∀(y:Nat) (h:AH) (κ:Ka),pK 18446744073709551615 64 (.int 18446744073709551615 (y:Int)) (.int 18446744073709551615 32) h κ=κ (.int 18446744073709551615 ((y/4294967296:Nat):Int)) h:=fun y h κ=>by
   rw [adI _ (by omega) (by omega)];rfl
  have u1:aZ 18446744073709551615 ((1:Nat):Int)=1:=by decide
  have u2:aZ 18446744073709551615 ((x%4294967296:Nat):Int)=((x%4294967296:Nat):Int):=ep (by omega)
  have u3:aZ 18446744073709551615 ((x/4294967296:Nat):Int)=((x/4294967296:Nat):Int):=ep (by omega)
  have u4:aZ 18446744073709551615 (x:Int)=(x:Int):=ep (by omega)
  have u5:aZ 18446744073709551615 0=0:=by decide
  have d1:x%4294967296/4294967296=0:=by omega
  have d2:x/4294967296/4294967296=0:=by omega
  have l3:Nat.land (toU 18446744073709551615 0) (toU 18446744073709551615 4294967295)=0:=by decide
  have s3: ∀(h:AH) (κ:Ka),pK 18446744073709551615 64 (.int 18446744073709551615 0) (.int 18446744073709551615 32) h κ=κ (.int 18446744073709551615 0) h:=fun h κ=>by kernel_rfl
  have z0:((0:Nat):Int)=0:=rfl
  simp only [sy,List.length_append,Nat.reduceAdd,Nat.reduceMul,Nat.reduceSub,Nat.reduceLeDiff,Nat.reduceEqDiff,Nat.reduceLT,reduceIte,afo,qD,l1,l2,l3,s1,s2,s3,u1,u2,u3,u4,u5,Int.one_mul,Int.zero_mul,Int.add_zero,Int.zero_add,d1,d2,z0,akn]
  exact Ends.mk ⟨rfl,rfl⟩
 obtain ⟨r,h2,el,er,eh⟩:=aG.call (C:=CL mx) g
 rw [er,eh] at el;exact el
theorem vG (x:Nat) (hx:x<18446744073709551616) (f:Nat):aD (CL mx) (rl (CL mx) (f+1)).run 296 [.int 18446744073709551615 (x:Int),.int 18446744073709551615 0,.int 18446744073709551615 0] h=some (.tup [.int 18446744073709551615 (x:Int),.int 18446744073709551615 0],h):=by
 have e:aD (CL mx) (rl (CL mx) (f+1)).run 296 [.int 18446744073709551615 (x:Int),.int 18446744073709551615 0,.int 18446744073709551615 0] h=some (.tup [.int 18446744073709551615 (.ofNat (Nat.mod (Nat.add (Nat.add x 0) 0) 18446744073709551616)),.int 18446744073709551615 (.ofNat (Nat.div (Nat.add (Nat.add x 0) 0) 18446744073709551616))],h):=by kernel_rfl
 rw [e]
 have e1:Nat.mod (Nat.add (Nat.add x 0) 0) 18446744073709551616=x:=Nat.mod_eq_of_lt hx
 have e2:Nat.div (Nat.add (Nat.add x 0) 0) 18446744073709551616=0:=Nat.div_eq_of_lt hx
 rw [e1,e2];rfl
theorem aju (x:Nat) (hx:x<18446744073709551616) (f:Nat):aD (CL mx) (rl (CL mx) (f+3)).run 226 [.int 18446744073709551615 1,.int 18446744073709551615 (x:Int),.int 18446744073709551615 0] h=some (.tup [.int 18446744073709551615 (x:Int),.int 9223372036854775807 0],h):=by
 have a:=fun f=>yn (mx:=mx) (h:=h) x hx f
 have b:=fun f=>vG (mx:=mx) (h:=h) x hx f
 have gt:decide ((0:Int)>0)=false:=by decide
 have ne:decide ((0:Int)≠0)=false:=by decide
 have g1:aG (fun r h'=>r= .tup [.int 18446744073709551615 (x:Int),.int 9223372036854775807 0]∧h'=h) ((rl (CL mx) (f+2)).run 262 [.int 18446744073709551615 1,.int 18446744073709551615 (x:Int)] h):=by
  refine aG.runs (n:=f+1) (alf mx _ _ _ _ _) ?_
  simp only [sy,List.length_append,Nat.reduceAdd,Nat.reduceMul,Nat.reduceSub,Nat.reduceLeDiff,Nat.reduceEqDiff,Nat.reduceLT,reduceIte,aqT,a,decide_false]
  exact Ends.mk ⟨rfl,rfl⟩
 have g2:aG (fun r h'=>r= .tup [.int 18446744073709551615 (x:Int),.int 9223372036854775807 0]∧h'=h) ((rl (CL mx) (f+2)).run 263 [.int 18446744073709551615 (x:Int),.int 18446744073709551615 0] h):=by
  refine aG.runs (n:=f+1) (al5 mx _ _ _ _ _) ?_
  simp only [sy,List.length_append,Nat.reduceAdd,Nat.reduceMul,Nat.reduceSub,Nat.reduceLeDiff,Nat.reduceEqDiff,Nat.reduceLT,reduceIte,ark,b,decide_false]
  exact Ends.mk ⟨rfl,rfl⟩
 obtain ⟨r1,h1,e1,er1,eh1⟩:=aG.call (C:=CL mx) g1
 obtain ⟨r2,h2,e2,er2,eh2⟩:=aG.call (C:=CL mx) g2
 rw [er1,eh1] at e1
 rw [er2,eh2] at e2
 have g:aG (fun r h'=>r= .tup [.int 18446744073709551615 (x:Int),.int 9223372036854775807 0]∧h'=h) ((rl (CL mx) (f+3)).run 226 [.int 18446744073709551615 1,.int 18446744073709551615 (x:Int),.int 18446744073709551615 0] h):=by
  refine aG.runs (n:=f+2) (ah7 mx _ _ _ _ _ _) ?_
  simp only [sy,List.length_append,Nat.reduceAdd,Nat.reduceMul,Nat.reduceSub,Nat.reduceLeDiff,Nat.reduceEqDiff,Nat.reduceLT,reduceIte,aqZ,e1,e2,decide_false]
  exact Ends.mk ⟨rfl,rfl⟩
 obtain ⟨r,h2,el,er,eh⟩:=aG.call (C:=CL mx) g
 rw [er,eh] at el;exact el
theorem xI (R:RS m K kd h p c s) {q:PS} {wv:AV} {bs:List AV} (hbs:(stC q wv bs).length=265) (hpl:aR (stC q wv bs)=true) (hq:q.a<0∨(q.a<(s.slots.length:Int)∧q.mul=1∧q.add=0∧ ∀x∈s.slots,x<18446744073709551616)) (f:Nat):
 aG (fun x h'=>x= .int 18446744073709551615 ((s.many q:Nat):Int)∧h.length≤h'.length∧ ∀i,i<h.length→ae h' i=ae h i) ((rl (CL mx) (f+4)).run 174 [.pto p 0,.agg (stC q wv bs)] h):=by
 refine aG.runs (n:=f+3) (aiQ mx _ _ _ _ _) ?_
 have hz:=aI h (some (Blk.cells (stC q wv bs) (308+1)))
 have R0:=R.grow (h':=h++[some (Blk.cells (stC q wv bs) (308+1))]) (by simp) (fun i hi=>aq hi _)
 have bx: ∀κ:Ka,gZ (308+1) (.agg (stC q wv bs)) h κ=κ (.pto h.length 0) (h++[some (Blk.cells (stC q wv bs) (308+1))]):=fun κ=>by rw [dP];rfl
 have fz: ∀i,i<h.length→ae (h++[some (Blk.cells (stC q wv bs) (308+1))]) i=ae h i:=fun i hi=>aq hi _
 have hl0:(h++[some (Blk.cells (stC q wv bs) (308+1))]).length=h.length+1:=by simp
 refine wEq (afN ..) ?_
 refine wEq (bx _) ?_
 generalize h++[some (Blk.cells (stC q wv bs) (308+1))]=h0 at*
 by_cases ha:q.a<0
 ·have g:decide (q.a<0)=true:=decide_eq_true ha
  have e:s.many q=q.add:=if_pos ha
  simp only [sy,List.length_append,Nat.reduceAdd,Nat.reduceMul,Nat.reduceSub,Nat.reduceLeDiff,Nat.reduceEqDiff,Nat.reduceLT,reduceIte,hz,eK,g,aas]
  exact Ends.mk ⟨by rw [e],by omega,fz⟩
 ·have g:decide (q.a<0)=false:=decide_eq_false ha
  obtain ⟨h1,h2,h3,h4⟩:=hq.resolve_left ha
  obtain ⟨j,hj⟩:=Int.eq_ofNat_of_zero_le (show 0≤q.a by omega)
  have e:s.many q=s.slots.getD j 0:=by
   unfold PR.many
   rw [if_neg ha,hj];rfl
  obtain ⟨stp,y,sl,st,ct,cl,QQ,hp,o2,o3,ok,o4,o5⟩:=R0.ex
  unfold rdL at hp
  have hjl:j<s.slots.length:=by omega
  obtain ⟨P,b,X,ix,ld,_⟩:=pL o2 hjl 0
  have hx:s.slots.getD j 0<18446744073709551616:=by
   have:s.slots.getD j 0=s.slots[j]:=by simp [List.getD_eq_getElem?_getD,hjl]
   rw [this];exact h4 _ (List.getElem_mem _)
  have lc:=aju (mx:=mx) (h:=h0) (s.slots.getD j 0) hx f
  have ne:decide ((0:Int)≠0)=false:=by decide
  have ble:Nat.ble (aj h0) (aj h0)=true:=by rw [bL];simp
  rw [hj] at g
  simp only [sy,List.length_append,Nat.reduceAdd,Nat.reduceMul,Nat.reduceSub,Nat.reduceLeDiff,Nat.reduceEqDiff,Nat.reduceLT,reduceIte,hz,eK,hj,h2,h3,g,afv,ahN,ahD,ag0,hp,ix,ld,show ((1:Nat):Int)=1 from rfl,show ((0:Nat):Int)=0 from rfl,lc,decide_false,ble,ne,aas]
  exact Ends.mk ⟨by rw [e],by omega,fz⟩
end
end Go.Proofs.YteapfopaiocpeaaGreatDoor
