/- A reader of package scan: a number of so many bytes; a number's step. The function's code is printed by a program. -/
import Derived.Test.YteapfopaiocpeaaGreatDoorSc
namespace Go.Proofs.YteapfopaiocpeaaGreatDoor
set_option linter.unusedSimpArgs false
set_option linter.unusedVariables false
set_option linter.unnecessarySimpa false
set_option linter.defProp false
noncomputable section
def bN (v0 v1 v3 v4 v10 v20 v47 v56 v66:AV):Tm:=(.nd 10 (.nd 3 (.nd 1 (.lf 0 v0) (.lf 1 v1)) (.nd 4 (.lf 3 v3) (.lf 4 v4))) (.nd 47 (.nd 20 (.lf 10 v10) (.lf 20 v20)) (.nd 56 (.lf 47 v47) (.nd 66 (.lf 56 v56) (.lf 66 v66)))))
def acO (mx:Int):K:=kAt [] (kOf (CL mx) 172)
def akI (mx:Int):K:=kAt [1,1,1,1,1,0] (kOf (CL mx) 172)
def abQ (mx:Int):K:=kAt [1,1,1,1,1,1] (kOf (CL mx) 172)
def al9 (mx:Int):K:=kAt [1,1,1,1,1,0,1,0] (kOf (CL mx) 172)
def acs (mx:Int):K:=kAt [1,1,1,1,1,1,0] (kOf (CL mx) 172)
def ai4 (mx:Int):K:=kAt [1,1,1,1,1,1,1] (kOf (CL mx) 172)
def abw (mx:Int):K:=kAt [1,1,1,1,1,1,1,0] (kOf (CL mx) 172)
def acN (mx:Int):K:=kAt [1,1,1,1,1,1,1,1] (kOf (CL mx) 172)
def ajL (mx:Int):K:=kAt [1,1,1,1,1,1,1,0,1,0] (kOf (CL mx) 172)
section
set_option maxRecDepth 100000
variable (mx:Int) (run:Run) (lp:Lp) (κn:Kt) (κx:Ex→Kt) (h:AH) (v0 v1 v3 v4 v10 v20 v47 v56 v66:AV)
theorem afL:kc (CL mx) run lp (acO mx) ⟨bN v0 v1 v3 v4 v10 v20 v47 v56 v66,h⟩ κn κx=gZ 309 v1 h (fun a0 h=>gU (placeOf (CL mx) [(0,40),(1,4),(2,22),(3,67)]) [.int 18446744073709551615 0,.bool false,.nils,.nils] [] h (fun a1 h=>aL (fun a2 h=>aL (fun a3 h=>ot a3 h (fun a4 h=>bG a4 (κx .ret ⟨bN v0 v1 a0 v4 a4 v20 v47 v56 v66,h⟩) (aC v0 h (fun a5 h=>ao 10 a5 h (fun a6 h=>ar a6 h (fun a7 h=>aC v0 h (fun a8 h=>ao 11 a8 h (fun a9 h=>cB a9 a7 h (fun a10 h=>kc (CL mx) run lp (akI mx) ⟨bN v0 v1 a0 (.int 18446744073709551615 0) a4 v20 v47 v56 v66,h⟩ (fun s=>kc (CL mx) run lp (abQ mx) s κn κx) κx))))))))) (aD (CL mx) run 112 [v0] h)) (aD (CL mx) run 170 [v0,a1] h))):=by kernel_rfl
theorem wg:kc (CL mx) run lp (akI mx) ⟨bN v0 v1 v3 v4 v10 v20 v47 v56 v66,h⟩ κn κx=ao 0 v3 h (fun a0 h=>ar a0 h (fun a1 h=>cmp cj a1 (.int 9223372036854775807 3) h (fun a2 h=>bG a2 (kc (CL mx) run lp (al9 mx) ⟨bN v0 v1 v3 v4 v10 a2 v47 v56 v66,h⟩ κn κx) (ao 3 v3 h (fun a3 h=>ar a3 h (fun a4 h=>aL (fun a5 h=>κn ⟨bN v0 v1 v3 a5 v10 a2 v47 v56 v66,h⟩) (aD (CL mx) run 221 [v0,a4] h))))))):=by kernel_rfl
theorem afg:kc (CL mx) run lp (abQ mx) ⟨bN v0 v1 v3 v4 v10 v20 v47 v56 v66,h⟩ κn κx=kc (CL mx) run lp (acs mx) ⟨bN v0 v1 v3 v4 v10 v20 v47 v56 v66,h⟩ (fun s=>kc (CL mx) run lp (ai4 mx) s κn κx) κx:=by kernel_rfl
theorem ahv:kc (CL mx) run lp (al9 mx) ⟨bN v0 v1 v3 v4 v10 v20 v47 v56 v66,h⟩ κn κx=kcR κn κx (fC (sRd [] h (aY v0 h kVH) fun r0=>sRd [r0.v] r0.h' (ao 1 v3 r0.h' kVH) fun r1=>sRd [r1.v,r0.v] r1.h' (ar r1.v r1.h' kVH) fun r2=>sRd [r2.v,r1.v,r0.v] r2.h' (cvI 18446744073709551615 r2.v r2.h' kVH) fun r3=>sRd [r3.v,r2.v,r1.v,r0.v] r3.h' (aY v0 r3.h' kVH) fun r4=>sRd [r4.v,r3.v,r2.v,r1.v,r0.v] r4.h' (aC r4.v r4.h' kVH) fun r5=>sRd [r5.v,r4.v,r3.v,r2.v,r1.v,r0.v] r5.h' (ao 10 r5.v r5.h' kVH) fun r6=>sRd [r6.v,r5.v,r4.v,r3.v,r2.v,r1.v,r0.v] r6.h' (ar r6.v r6.h' kVH) fun r7=>sEf [r7.v,r6.v,r5.v,r4.v,r3.v,r2.v,r1.v,r0.v] r7.h' (aL kVH (aD (CL mx) run 176 [r0.v,r3.v,r7.v] r7.h')) fun r8=>sRd [r8.v,r7.v,r6.v,r5.v,r4.v,r3.v,r2.v,r1.v,r0.v] r8.h' (ao 3 v3 r8.h' kVH) fun r9=>sRd [r9.v,r8.v,r7.v,r6.v,r5.v,r4.v,r3.v,r2.v,r1.v,r0.v] r9.h' (ar r9.v r9.h' kVH) fun r10=>sEf [r10.v,r9.v,r8.v,r7.v,r6.v,r5.v,r4.v,r3.v,r2.v,r1.v,r0.v] r10.h' (aL kVH (aD (CL mx) run 220 [r8.v,r10.v] r10.h')) fun r11=>sRd [r11.v,r10.v,r9.v,r8.v,r7.v,r6.v,r5.v,r4.v,r3.v,r2.v,r1.v,r0.v] r11.h' (aY r11.v r11.h' kVH) fun r12=>bq (and (cz r9 (OK.f (.mk (o1 (ao 3) (.tr 3))) (CL mx) run r9.σ (bN v0 v1 v3 v4 v10 v20 v47 v56 v66) (cF (aj r9.h) r8.h) kVH)) (and (cz r10 (OK.f (.mk (o1 ar (.st 0))) (CL mx) run r10.σ (bN v0 v1 v3 v4 v10 v20 v47 v56 v66) (cF (aj r10.h) r8.h) kVH)) (true))) (some (.st (bN v0 v1 v3 r12.v v10 v20 v47 v56 v66) r12.h')) none)):=(gL (C:=CL mx) (D:=bC (CL mx) (opsOf (cAt [1,1,1,1,1,0,1,0] (aH (CL mx) 172))).toList (bM (opsOf (cAt [1,1,1,1,1,0,1,0] (aH (CL mx) 172))).toList) 0 (aV (CL mx) (opsOf (cAt [1,1,1,1,1,0,1,0] (aH (CL mx) 172))).toList [] (opsOf (cAt [1,1,1,1,1,0,1,0] (aH (CL mx) 172))).toList)) (pl:=bo (CL mx) (opsOf (cAt [1,1,1,1,1,0,1,0] (aH (CL mx) 172)))) (fl:=flL [0,1,3,4,10,20,47,56,66] (opsOf (cAt [1,1,1,1,1,0,1,0] (aH (CL mx) 172))).toList) (by kernel_rfl) _ _ _).trans (by kernel_rfl)
theorem rS:kc (CL mx) run lp (acs mx) ⟨bN v0 v1 v3 v4 v10 v20 v47 v56 v66,h⟩ κn κx=aL (fun a0 h=>av a0 true (fun κ=>aY v4 h κ) h (fun a1 h=>av a0 true (fun κ=>ao 4 v3 h κ) h (fun a2 h=>av a0 true (fun κ=>ar a2 h κ) h (fun a3 h=>av a0 true (fun κ=>ao 5 v3 h κ) h (fun a4 h=>av a0 true (fun κ=>ar a4 h κ) h (fun a5 h=>av a0 true (fun κ=>aL κ (aD (CL mx) run 222 [a1,a3,a5] h)) h (fun a6 h=>av a0 true (fun κ=>ot a6 h κ) h (fun a7 h=>fm a0 a7 (.bool false) h (fun a8 h=>bG a8 (aC v0 h (fun a9 h=>ao 11 a9 h (fun a10 h=>ar a10 h (fun a11 h=>aL (fun a12 h=>κn ⟨bN v0 v1 v3 v4 v10 v20 a8 v56 v66,h⟩) (aD (CL mx) run 114 [v0,(.int 9223372036854775807 210),a11] h))))) (κn ⟨bN v0 v1 v3 v4 v10 v20 a8 v56 v66,h⟩)))))))))) (aD (CL mx) run 112 [v0] h):=by kernel_rfl
theorem agy:kc (CL mx) run lp (ai4 mx) ⟨bN v0 v1 v3 v4 v10 v20 v47 v56 v66,h⟩ κn κx=kc (CL mx) run lp (abw mx) ⟨bN v0 v1 v3 v4 v10 v20 v47 v56 v66,h⟩ (fun s=>kc (CL mx) run lp (acN mx) s κn κx) κx:=by kernel_rfl
theorem wW:kc (CL mx) run lp (abw mx) ⟨bN v0 v1 v3 v4 v10 v20 v47 v56 v66,h⟩ κn κx=ao 2 v3 h (fun a0 h=>ar a0 h (fun a1 h=>cmp ige a1 (.int 9223372036854775807 0) h (fun a2 h=>bG a2 (kc (CL mx) run lp (ajL mx) ⟨bN v0 v1 v3 v4 v10 v20 v47 a2 v66,h⟩ κn κx) (κn ⟨bN v0 v1 v3 v4 v10 v20 v47 a2 v66,h⟩)))):=by kernel_rfl
theorem wx:kc (CL mx) run lp (acN mx) ⟨bN v0 v1 v3 v4 v10 v20 v47 v56 v66,h⟩ κn κx=aL (fun a0 h=>bG a0 (gU (placeOf (CL mx) [(0,40),(1,4),(2,22),(3,67)]) [.int 18446744073709551615 0,.bool false,.nils,.nils] [(0,v4)] h (fun a1 h=>aL (fun a2 h=>κn ⟨bN v0 v1 v3 v4 v10 v20 v47 v56 a0,h⟩) (aD (CL mx) run 175 [v0,a1] h))) (κn ⟨bN v0 v1 v3 v4 v10 v20 v47 v56 a0,h⟩)) (aD (CL mx) run 112 [v0] h):=by kernel_rfl
theorem afH:kc (CL mx) run lp (ajL mx) ⟨bN v0 v1 v3 v4 v10 v20 v47 v56 v66,h⟩ κn κx=aC v0 h (fun a0 h=>ao 14 a0 h (fun a1 h=>ar a1 h (fun a2 h=>ao 2 v3 h (fun a3 h=>ar a3 h (fun a4 h=>bT 1 a2 a4 h (fun a5 h=>cB a5 v4 h (fun a6 h1=>bq (Nat.ble (aj h) (aj h1)) ((fun h=>κn ⟨bN v0 v1 v3 v4 v10 v20 v47 v56 v66,h⟩) h1) none))))))):=(cE (C:=CL mx) (ops:=opsOf (cAt [1,1,1,1,1,1,1,0,1,0] (aH (CL mx) 172))) (ps:=[0,1,3,4,10,20,47,56,66]) (by kernel_rfl) (by kernel_rfl) _ _ _).trans (by kernel_rfl)
theorem abo:aW (bN v0 v1 v3 v4 v10 v20 v47 v56 v66) 0=v0:=(rfl)
theorem ade:aW (bN v0 v1 v3 v4 v10 v20 v47 v56 v66) 3=v3:=(rfl)
theorem zw:kcE (CL mx) [] ⟨bN v0 v1 v3 v4 v10 v20 v47 v56 v66,h⟩=some (.vh (.tup []) h):=(bJ _ _ _).trans (by kernel_rfl)
theorem aot:dp (CL mx) 172=some ⟨acO mx,[0,1,3,4,10,20,47,56,66],71,[]⟩:=by kernel_rfl
end
theorem ake (mx:Int) (run:Run) (lp:Lp) (x0 x1:AV) (h:AH):cW (CL mx) run lp 172 [x0,x1] h=vhO (kc (CL mx) run lp (acO mx) ⟨bN x0 x1 .bot .bot .bot .bot .bot .bot .bot,h⟩ (kcE (CL mx) []) (kcQ (CL mx) [])):=(bK (by kernel_rfl) (aot mx) (by kernel_rfl)).trans (by kernel_rfl)
end
section
variable {mx:Int} {m:Nat} {K:RC} {kd:Nat→Nat} {h:AH} {p:Nat} {c:PC} {s:PR}
theorem akj (P:List Nat) (c:Nat):beN (P++[c])=beN P*256+c:=by unfold beN;rw [List.foldl_append];rfl
theorem aku: ∀(r:List Nat) (a k:Nat),(∀x∈r,x<256)→a<256^k→r.foldl (fun n c=>n*256+c) a<256^(k+r.length)
 |[],a,k,_,ha=>ha
 |x::r,a,k,hx,ha=>by
  have h1:=hx x (List.mem_cons_self ..)
  have:a*256+x<256^(k+1):=by rw [Nat.pow_succ];omega
  have:=aku r _ (k+1) (fun y hy=>hx y (List.mem_cons_of_mem _ hy)) this
  rw [List.length_cons,show k+(r.length+1)=k+1+r.length by omega]
  exact this
theorem aqg {P:List Nat} (hP: ∀x∈P,x<256):beN P<256^P.length:=by
 have:=aku P 0 0 hP (by decide)
 rw [Nat.zero_add] at this;exact this
theorem aso {a c:Nat} (hc:c<256):Nat.lor (a*256) c=a*256+c:=by
 have:=Nat.two_pow_add_eq_or_of_lt (b:=c) (i:=8) hc a
 show a*256|||c=_
 rw [Nat.mul_comm a 256]
 exact this.symm
theorem ano {Q:Option Rs→Prop} {κn:Kt} {κx:Ex→Kt} {v:AV} {d L:List Nat} {flag:Bool} (D:dq h v (aS d)) (hd:d.length≤8) (hb: ∀x∈d,x<256) (hL:L=if flag then d.reverse else d) (v4:AV): ∀(R P:List Nat) (f:Nat) (v6 v7 v16 v22:AV),L=P++R→R.length+2≤f→
 (∀v6 v7 v15 v16 v22,Q (κx (.exit 0) ⟨eV v (.bool flag) v4 (.int 18446744073709551615 (beN L:Int)) v6 v7 (.int 9223372036854775807 (d.length:Int)) v15 v16 v22,h⟩))→
 Q (kcR κn κx ((rl (CL mx) f).lp (ai5 mx) ⟨eV v (.bool flag) v4 (.int 18446744073709551615 (beN P:Int)) v6 v7 (.int 9223372036854775807 (d.length:Int)) (.int 9223372036854775807 (P.length:Int)) v16 v22,h⟩)):=by
 have hLl:L.length=d.length:=by rw [hL];cases flag<;>simp
 have hLb: ∀x∈L,x<256:=by rw [hL];cases flag<;>simpa using hb
 intro R
 induction R with
 |nil=>
  intro P f v6 v7 v16 v22 hP hf hk
  obtain ⟨f,rfl⟩:=fuel hf
  obtain rfl:L=P:=by simpa using hP
  refine iX (adT mx _) ?_
  have g:decide ((L.length:Int)<(d.length:Int))=false:=by rw [decide_eq_false_iff_not];omega
  simp only [sy,List.length_append,Nat.reduceAdd,Nat.reduceMul,Nat.reduceSub,Nat.reduceLeDiff,Nat.reduceEqDiff,Nat.reduceLT,reduceIte,uy,g]
  exact hk _ _ _ _ _
 |cons b R ih=>
  intro P f v6 v7 v16 v22 hP hf hk
  obtain ⟨f,rfl⟩:=fuel hf
  have hlen:d.length=P.length+(R.length+1):=by rw [←hLl,hP];simp
  have eb:L[P.length]? =some b:=by rw [hP];simp
  have hb256:=hLb b (List.mem_of_getElem? eb)
  have hPb:beN P<256^P.length:=aqg fun x hx=>hLb x (by rw [hP];simp [hx])
  have hP7:256^P.length≤256^7:=Nat.pow_le_pow_right (by omega) (by omega)
  have h7:256^7=72057594037927936:=by decide
  obtain ⟨x,ex⟩: ∃x,d[P.length]? =some x:=⟨_,List.getElem?_eq_getElem (by omega)⟩
  obtain ⟨q,_,q2,q3⟩:=D.idx (oV ex)
  have hx256:=hb x (List.mem_of_getElem? ex)
  have e1:decide ((P.length:Int)<(d.length:Int))=true:=by rw [decide_eq_true_iff];omega
  have e4:aZ 9223372036854775807 ((P.length:Int)+1)=((P.length+1:Nat):Int):=by rw [bd (by omega) (by omega)];simp
  have w1: ∀y:Nat,y<256→aZ 18446744073709551615 (y:Int)=(y:Int):=fun y hy=>ep (by omega)
  have s8: ∀(h:AH) (κ:Ka),aa0 18446744073709551615 64 (.int 18446744073709551615 (beN P:Int)) (.int 18446744073709551615 8) h κ=κ (.int 18446744073709551615 ((beN P*256:Nat):Int)) h:=fun h κ=>by
   rw [adY _ (by omega) (by omega),show ((8:Int)).toNat=8 from rfl,show ((beN P:Nat):Int)*((2^8:Nat):Int)=((beN P*256:Nat):Int) from (Int.natCast_mul (beN P) 256).symm,ep (by omega)]
  have b2: ∀(h:AH) (κ:Ka),mh 18446744073709551615 18446744073709551615 Nat.lor (.int 18446744073709551615 ((beN P*256:Nat):Int)) (.int 18446744073709551615 (b:Int)) h κ=κ (.int 18446744073709551615 ((beN (P++[b]):Nat):Int)) h:=fun h κ=>by
   rw [qD,jC (by omega),jC (by omega),aso hb256,ep (by omega),akj]
  have hl:=fun κ=>D.bH h κ
  rw [bW] at hl
  have key:=fun v6 v7 v16 v22=>ih (P++[b]) (f+R.length+2) v6 v7 v16 v22 (by rw [hP];simp) (by omega) hk
  rw [show (P++[b]).length=P.length+1 by simp] at key
  refine iX (adT mx _) ?_
  cases flag with
  |false=>
   have hbx:x=b:=by
    have:L=d:=hL
    rw [this,ex] at eb
    exact Option.some.inj eb
   subst hbx
   simp only [sy,List.length_append,Nat.reduceAdd,Nat.reduceMul,Nat.reduceSub,Nat.reduceLeDiff,Nat.reduceEqDiff,Nat.reduceLT,reduceIte,uy,zy,zx,aae,aar,e1,q2,q3,w1 _ hx256,s8,b2,e4]
   exact key _ _ _ _
  |true=>
   have hrev:L=d.reverse:=hL
   have ej:d[d.length-1-P.length]? =some b:=by
    rw [hrev,List.getElem?_reverse (by omega)] at eb
    exact eb
   obtain ⟨q',_,q2',q3'⟩:=D.idx (oV ej)
   have w3:aZ 9223372036854775807 ((d.length:Int)-1)=((d.length-1:Nat):Int):=by rw [bd (by omega) (by omega)];omega
   have w4:aZ 9223372036854775807 (((d.length-1:Nat):Int)-(P.length:Int))=((d.length-1-P.length:Nat):Int):=by rw [bd (by omega) (by omega)];omega
   simp only [sy,List.length_append,Nat.reduceAdd,Nat.reduceMul,Nat.reduceSub,Nat.reduceLeDiff,Nat.reduceEqDiff,Nat.reduceLT,reduceIte,uy,zy,zx,aae,aar,e1,q2,q3,hl,w3,w4,q2',q3',w1 _ hb256,s8,b2,e4]
   exact key _ _ _ _
theorem aid {S:Nat→Prop} {v:AV} {d:List Nat} {flag:Bool} (D:iD h S v d) (hd:d.length≤8) (hb: ∀x∈d,x<256) (f:Nat):aG (fun r h'=>r= .int 18446744073709551615 (ny flag d:Int)∧h'=h) ((rl (CL mx) (f+11)).run 220 [v,.bool flag] h):=by
 refine aG.runs (n:=f+10) (aoN mx _ _ _ _ _) ?_
 have hl:=fun κ=>D.at.bH h κ
 rw [bW] at hl
 have wm:min (d.length:Int) 8=(d.length:Int):=by omega
 have sl: ∀κ:Ka,slS 1 v none (some (.int 9223372036854775807 (d.length:Int))) none h κ=κ v h:=fun κ=>by
  rcases D with ⟨rfl,rfl⟩|⟨d0,b,e,y,rfl,_,hb⟩
  ·rfl
  ·have hn:d.length≠0:=fun cc=>d0 (List.length_eq_zero_iff.1 cc)
   show bq (and (and (Nat.ble 0 d.length) (Nat.ble d.length d.length)) (and (Nat.ble d.length d.length) (or (not false) true))) (bq (Nat.beq 1 1) (bq (Nat.beq 0 d.length) (κ .sle h) (κ (.slo b (Nat.add 0 (Nat.mul 0 1)) (Nat.sub d.length 0) (Nat.sub d.length 0) 1 (or e false)) h)) none) none=_
   rw [bL,bL,jr,jr,decide_eq_true (Nat.zero_le _),decide_eq_true (Nat.le_refl _),decide_eq_true rfl,decide_eq_false (show ¬0=d.length by omega),Bool.or_false]
   rfl
 simp only [sy,List.length_append,Nat.reduceAdd,Nat.reduceMul,Nat.reduceSub,Nat.reduceLeDiff,Nat.reduceEqDiff,Nat.reduceLT,reduceIte,akX,ah8,hl,wm,sl]
 refine ano (L:=if flag then d.reverse else d) D.at hd hb rfl (.int 18446744073709551615 0) (if flag then d.reverse else d) [] (f+10) _ _ _ _ (by simp) (by cases flag<;>simp<;>omega) fun v6 v7 v15 v16 v22=>?_
 simp only [sy,List.length_append,Nat.reduceAdd,Nat.reduceMul,Nat.reduceSub,Nat.reduceLeDiff,Nat.reduceEqDiff,Nat.reduceLT,reduceIte,aiB,ao3]
 exact Ends.mk ⟨rfl,rfl⟩
def stC (q:PS) (wv:AV) (bs:List AV):List AV:=[N64 q.kind,.int 9223372036854775807 q.a,.int 9223372036854775807 q.b,.bool q.flag,U64 q.mn,U64 q.mx,U64 q.mul,U64 q.add,wv]++bs
theorem stC0 (q:PS) (wv:AV) (bs:List AV):(stC q wv bs)[0]? =some (.int 9223372036854775807 (q.kind:Int)):=rfl
theorem stC1 (q:PS) (wv:AV) (bs:List AV):(stC q wv bs)[1]? =some (.int 9223372036854775807 q.a):=rfl
theorem stC2 (q:PS) (wv:AV) (bs:List AV):(stC q wv bs)[2]? =some (.int 9223372036854775807 q.b):=rfl
theorem stC3 (q:PS) (wv:AV) (bs:List AV):(stC q wv bs)[3]? =some (.bool q.flag):=rfl
theorem stC4 (q:PS) (wv:AV) (bs:List AV):(stC q wv bs)[4]? =some (.int 18446744073709551615 (q.mn:Int)):=rfl
theorem stC5 (q:PS) (wv:AV) (bs:List AV):(stC q wv bs)[5]? =some (.int 18446744073709551615 (q.mx:Int)):=rfl
theorem stC6 (q:PS) (wv:AV) (bs:List AV):(stC q wv bs)[6]? =some (.int 18446744073709551615 (q.mul:Int)):=rfl
theorem stC7 (q:PS) (wv:AV) (bs:List AV):(stC q wv bs)[7]? =some (.int 18446744073709551615 (q.add:Int)):=rfl
theorem stC8 (q:PS) (wv:AV) (bs:List AV):(stC q wv bs)[8]? =some wv:=rfl
def eK:=And.intro @stC0<|And.intro @stC1<|And.intro @stC2<|And.intro @stC3<|And.intro @stC4<|And.intro @stC5<|And.intro @stC6<|And.intro @stC7 @stC8
theorem akv (n a b:Nat) (f:Nat):aD (CL mx) (rl (CL mx) (f+1)).run 222 [.int 18446744073709551615 (n:Int),.int 18446744073709551615 (a:Int),.int 18446744073709551615 (b:Int)] h=some (.bool (decide (a≤n∧n≤b)),h):=by
 obtain ⟨r,h2,el,er,eh⟩:=aG.call (C:=CL mx) (afO (mx:=mx) (h:=h) n a b f)
 rw [er,eh] at el;exact el
theorem num4 {Q:Option Rs→Prop} {κn:Kt} {κx:Ex→Kt} {lp:Lp} {v1 v10 v20 v47 v56 v66:AV} (R:RS m K kd h p c s) {q:PS} {wv:AV} {bs:List AV} {q3 y3 n:Nat} (h3:ae h q3=some (.cells (stC q wv bs) y3)) (h30:kd q3=0) (f:Nat)
 (k: ∀h1 v47,RS m K kd h1 p c (if s.code=0∧ ¬(q.mn≤n∧n≤q.mx) then s.bh 210 s.last else s)→h1.length=h.length→(∀i,kd i≠1→ae h1 i=ae h i)→Q (κn ⟨bN (.pto p 0) v1 (.pto q3 0) (.int 18446744073709551615 (n:Int)) v10 v20 v47 v56 v66,h1⟩)):
 Q (kc (CL mx) (rl (CL mx) (f+1)).run lp (acs mx) ⟨bN (.pto p 0) v1 (.pto q3 0) (.int 18446744073709551615 (n:Int)) v10 v20 v47 v56 v66,h⟩ κn κx):=by
 have okc:=eC (mx:=mx) R f
 have wc:=akv (mx:=mx) (h:=h) n q.mn q.mx f
 obtain ⟨stp,y,sl,st,ct,cl,QQ,hp,_⟩:=R.ex
 unfold rdL at hp
 by_cases h0:s.code=0
 ·by_cases hw:q.mn≤n∧n≤q.mx
  ·rw [if_neg (fun cc=>cc.2 hw)] at k
   simp only [sy,List.length_append,Nat.reduceAdd,Nat.reduceMul,Nat.reduceSub,Nat.reduceLeDiff,Nat.reduceEqDiff,Nat.reduceLT,reduceIte,rS,okc,decide_eq_true h0,h3,eK,wc,decide_eq_true hw]
   exact k h _ R rfl fun i _=>rfl
  ·rw [if_pos ⟨h0,hw⟩] at k
   simp only [sy,List.length_append,Nat.reduceAdd,Nat.reduceMul,Nat.reduceSub,Nat.reduceLeDiff,Nat.reduceEqDiff,Nat.reduceLT,reduceIte,rS,okc,decide_eq_true h0,h3,eK,wc,decide_eq_false hw,hp,n64]
   refine bE (eM R 210 s.last f).call ?_
   rintro r h1 ⟨rfl,R1,n1,f1⟩
   exact k h1 _ R1 n1 f1
 ·rw [if_neg (fun cc=>h0 cc.1)] at k
  simp only [sy,List.length_append,Nat.reduceAdd,Nat.reduceMul,Nat.reduceSub,Nat.reduceLeDiff,Nat.reduceEqDiff,Nat.reduceLT,reduceIte,rS,okc,decide_eq_false h0]
  exact k h _ R rfl fun i _=>rfl
theorem pL {S:Nat→Prop} {v:AV} {L:List Nat} (o:OwR h S 1 v (L.map fun n=>[U64 n])) {i:Nat} (hi:i<L.length) (n:Nat): ∃P b X,(∀(k:Nat) (h':AH) (κ:Ka),bT 1 v (.int k (i:Int)) h' κ=κ P h')∧(∀κ:Ka,ar P h κ=κ (.int 18446744073709551615 (L.getD i 0:Int)) h)∧S b∧(∀κ:Ka,cB P (.int 18446744073709551615 (n:Int)) h κ=κ (.tup []) (h.set b X))∧OwR (h.set b X) S 1 v ((L.set i n).map fun n=>[U64 n]):=by
 obtain ⟨hr,⟨e,_⟩|⟨b,cap,e,junk,y,hs,ob⟩⟩:=o
 ·rw [List.map_eq_nil_iff] at e
  rw [e] at hi;simp at hi
 ·have hg:(L.map fun n=>[U64 n])[i]? =some [U64 L[i]]:=by simp [hi]
  have el:=ob.el hr hg
  obtain ⟨st,o'⟩:=ob.st1 hr hg (j:=0) (c:=.int 18446744073709551615 (n:Int)) (by decide) rfl
  have hset:(L.map fun n=>[U64 n]).set i (List.set [U64 L[i]] 0 (.int 18446744073709551615 (n:Int)))=(L.set i n).map fun n=>[U64 n]:=by
   rw [List.map_set];rfl
  rw [hset] at st o'
  refine ⟨.pto b (i*1),b,_,el.idx,fun κ=>?_,hs,st,?_,?_⟩
  ·have:=el.ld1 0 (U64 L[i]) rfl κ
   show ar (.pto b (i*1+0)) h κ=_
   rw [this]
   have:L.getD i 0=L[i]:=by simp [List.getD_eq_getElem?_getD,hi]
   rw [this];rfl
  ·intro r hr'
   obtain ⟨x,_,rfl⟩:=List.mem_map.1 hr'
   rfl
  ·exact .inr ⟨b,cap,e,junk,y,hs,o'⟩
theorem num6 {Q:Option Rs→Prop} {κn:Kt} {κx:Ex→Kt} {run:Run} {lp:Lp} {v1 v10 v20 v47 v56 v66:AV} (R:RS m K kd h p c s) {q:PS} {wv:AV} {bs:List AV} {q3 y3 n:Nat} (h3:ae h q3=some (.cells (stC q wv bs) y3)) (h30:kd q3=0) (hb:q.b<(s.slots.length:Int))
 (k: ∀h1 v56,RS m K kd h1 p c (if 0≤q.b then {s with slots:=s.slots.set q.b.toNat n} else s)→h1.length=h.length→(∀i,kd i≠2→ae h1 i=ae h i)→Q (κn ⟨bN (.pto p 0) v1 (.pto q3 0) (.int 18446744073709551615 (n:Int)) v10 v20 v47 v56 v66,h1⟩)):
 Q (kc (CL mx) run lp (abw mx) ⟨bN (.pto p 0) v1 (.pto q3 0) (.int 18446744073709551615 (n:Int)) v10 v20 v47 v56 v66,h⟩ κn κx):=by
 obtain ⟨stp,y,sl,st,ct,cl,QQ,hp,o2,o3,ok,o4,o5⟩:=R.ex
 have hp':=hp
 unfold rdL at hp'
 have hpl:=aO hp
 by_cases h0:0≤q.b
 ·rw [if_pos h0] at k
  obtain ⟨j,hj⟩:=Int.eq_ofNat_of_zero_le h0
  have hjl:j<s.slots.length:=by omega
  obtain ⟨P,b,X,ix,_,hs,st1,o'⟩:=pL o2 hjl n
  have hs:kd b=2:=hs
  rw [←hj] at ix
  have ble2:Nat.ble (aj h) (aj (h.set b X))=true:=by rw [bL,ah,ah];simp
  simp only [sy,List.length_append,Nat.reduceAdd,Nat.reduceMul,Nat.reduceSub,Nat.reduceLeDiff,Nat.reduceEqDiff,Nat.reduceLT,reduceIte,wW,afH,h3,eK,decide_eq_true h0,hp',ix,st1,ble2]
  have fr: ∀i,kd i≠2→ae (h.set b X) i=ae h i:=fun i hi=>ai (fun cc=>hi (by rw [←cc];exact hs)) _
  have mm: ∀{j:Nat},j≠2→ ∀b',b'<h.length→kd b'=j→kd b'=j∧ae (h.set b X) b'=ae h b':=fun hj b' hb' e=>⟨e,fr b' (by rw [e];exact hj)⟩
  refine k _ _ (R.make (stp':=stp) (y':=y) (sl:=sl) (st:=st) (ct:=ct) (cl:=cl) (Q:=QQ) R.kp (fun i hi=>⟨R.lo i hi,fr i (by rw [R.lo i hi];decide)⟩) (by rw [List.length_set];exact Nat.le_refl _) (by rw [fr p (by rw [R.kp];decide)];exact hp) ?_ (o3.mono (mm (by decide))) (ok.mono fun b' hb' h1 _=>⟨rfl,fr b' (by omega)⟩) (o4.mono (mm (by decide))) (o5.mono (mm (by decide)))) (List.length_set) fr
  rw [show q.b.toNat=j by omega];exact o'
 ·rw [if_neg h0] at k
  simp only [sy,List.length_append,Nat.reduceAdd,Nat.reduceMul,Nat.reduceSub,Nat.reduceLeDiff,Nat.reduceEqDiff,Nat.reduceLT,reduceIte,wW,h3,eK,decide_eq_false h0]
  exact k h _ R rfl fun i _=>rfl
theorem rU {h:AH} {i m:Nat} (h1:i<h.length) (h2:i<m):ae (cF m h) i=ae h i:=by
 unfold cF
 rw [aP,aM,aq (by rw [List.length_take];omega),bm,bm,List.getElem?_take_of_lt h2]
theorem num7 {Q:Option Rs→Prop} {κn:Kt} {κx:Ex→Kt} {lp:Lp} {v1 v3 v10 v20 v47 v56 v66:AV} (R:RS m K kd h p c s) {t0 u:PT} {r:List PT} (hs:s.stack=t0::u::r) (hlen:r.length≤90000) (hkids: ∀n b d ks,u= .nd n b d ks→ks.length≤90000∧d=[]) {n n0:Nat} (hmn:m≤n0) (hn1:n0≤h.length) (f:Nat)
 (k: ∀h' v66,Nx n0 m K kd h p c (if s.code=0 then s.leaf (.nd n false [] []) else s) h'→Q (κn ⟨bN (.pto p 0) v1 v3 (.int 18446744073709551615 (n:Int)) v10 v20 v47 v56 v66,h'⟩)):
 Q (kc (CL mx) (rl (CL mx) (f+2)).run lp (acN mx) ⟨bN (.pto p 0) v1 v3 (.int 18446744073709551615 (n:Int)) v10 v20 v47 v56 v66,h⟩ κn κx):=by
 have okc:=eC (mx:=mx) R (f+1)
 by_cases h0:s.code=0
 ·rw [if_pos h0] at k
  simp only [sy,List.length_append,Nat.reduceAdd,Nat.reduceMul,Nat.reduceSub,Nat.reduceLeDiff,Nat.reduceEqDiff,Nat.reduceLT,reduceIte,wx,okc,decide_eq_true h0]
  refine wEq (eB (cs:=[.int 18446744073709551615 (n:Int),.bool false,.nils,.nils]) (by kernel_rfl)) ?_
  refine bE (qY R hs hlen hkids (nn:=n) (dv:=.nils) (dd:=[]) (b0:=h.length) (n0:=n0) (.inl ⟨rfl,rfl⟩) (fP (Nat.le_refl _)) hmn hn1 hn1 f).call ?_
  rintro x h' ⟨rfl,nx⟩
  exact k h' _ nx
 ·rw [if_neg h0] at k
  simp only [sy,List.length_append,Nat.reduceAdd,Nat.reduceMul,Nat.reduceSub,Nat.reduceLeDiff,Nat.reduceEqDiff,Nat.reduceLT,reduceIte,wx,okc,decide_eq_false h0]
  exact k h _ ⟨kd,R,Nat.le_refl _,fun i _ h0=>⟨rfl,h0⟩⟩
theorem aej {lp:Lp} {v1 v10 v20 v47 v56 v66:AV} (R:RS m K kd h p c s) {q:PS} {wv:AV} {bs:List AV} {q3 y3 n n0:Nat} (h3:ae h q3=some (.cells (stC q wv bs) y3)) (h30:kd q3=0) (hb:q.b<(s.slots.length:Int))
 {t0 u:PT} {r:List PT} (hs:s.stack=t0::u::r) (hlen:r.length≤90000) (hkids: ∀n b d ks,u= .nd n b d ks→ks.length≤90000∧d=[]) (hmn:m≤n0) (hn1:n0≤h.length) (f:Nat):
 Ends (fun x h'=>x= .tup []∧Nx n0 m K kd h p c (s.lD q n) h') (kc (CL mx) (rl (CL mx) (f+2)).run lp (abQ mx) ⟨bN (.pto p 0) v1 (.pto q3 0) (.int 18446744073709551615 (n:Int)) v10 v20 v47 v56 v66,h⟩ (kcE (CL mx) []) (kcQ (CL mx) [])):=by
 refine wEq (afg ..) ?_
 refine num4 R h3 h30 (f+1) fun h1 v47 R1 n1 f1=>?_
 have e1:ae h1 q3=some (.cells (stC q wv bs) y3):=by rw [f1 _ (by rw [h30];decide)];exact h3
 generalize hS1:(if s.code=0∧ ¬(q.mn≤n∧n≤q.mx) then s.bh 210 s.last else s)=s1 at R1
 have w1:s1.slots=s.slots∧s1.stack=s.stack:=by
  rw [←hS1]
  split
  ·unfold PR.bh;split<;>exact ⟨rfl,rfl⟩
  ·exact ⟨rfl,rfl⟩
 refine wEq (agy ..) ?_
 refine num6 R1 (n:=n) e1 h30 (by rw [w1.1];exact hb) fun h2 v56 R2 n2 f2=>?_
 generalize hS2:(if 0≤q.b then {s1 with slots:=s1.slots.set q.b.toNat n} else s1)=s2 at R2
 have w2:s2.stack=s.stack:=by rw [←hS2];split<;>exact w1.2
 refine num7 R2 (by rw [w2];exact hs) hlen hkids (n:=n) hmn (by omega) f fun h' v66 nx=>?_
 simp only [sy,List.length_append,Nat.reduceAdd,Nat.reduceMul,Nat.reduceSub,Nat.reduceLeDiff,Nat.reduceEqDiff,Nat.reduceLT,reduceIte,zw]
 refine Ends.mk ⟨rfl,?_⟩
 unfold PR.lD
 rw [hS1]
 show Nx n0 m K kd h p c (if (if 0≤q.b then {s1 with slots:=s1.slots.set q.b.toNat n} else s1).code=0 then _ else _) h'
 rw [hS2]
 exact Nx.pre ⟨by omega,fun i hi h0=>⟨by rw [f2 i (by rw [h0];decide),f1 i (by rw [h0];decide)],h0⟩⟩ nx
end
end Go.Proofs.YteapfopaiocpeaaGreatDoor
