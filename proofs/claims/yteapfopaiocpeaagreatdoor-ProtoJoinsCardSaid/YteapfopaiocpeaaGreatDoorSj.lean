/- A reader of package scan: a step by which it goes on elsewhere. The function's code is printed by a program. -/
import Derived.Test.YteapfopaiocpeaaGreatDoorSf
namespace Go.Proofs.YteapfopaiocpeaaGreatDoor
set_option linter.unusedSimpArgs false
set_option linter.unusedVariables false
set_option linter.unnecessarySimpa false
set_option linter.defProp false
noncomputable section
def cG (v0 v1 v2 v5 v6 v7 v8 v9 v11 v12 v16 v31 v52 v77 v80 v85 v90 v105 v130:AV):Tm:=(.nd 12 (.nd 6 (.nd 2 (.nd 1 (.lf 0 v0) (.lf 1 v1)) (.nd 5 (.lf 2 v2) (.lf 5 v5))) (.nd 8 (.nd 7 (.lf 6 v6) (.lf 7 v7)) (.nd 9 (.lf 8 v8) (.nd 11 (.lf 9 v9) (.lf 11 v11))))) (.nd 80 (.nd 31 (.nd 16 (.lf 12 v12) (.lf 16 v16)) (.nd 52 (.lf 31 v31) (.nd 77 (.lf 52 v52) (.lf 77 v77)))) (.nd 90 (.nd 85 (.lf 80 v80) (.lf 85 v85)) (.nd 105 (.lf 90 v90) (.nd 130 (.lf 105 v105) (.lf 130 v130))))))
def acx (mx:Int):K:=kAt [] (kOf (CL mx) 180)
def ajc (mx:Int):K:=kAt [1,0] (kOf (CL mx) 180)
def aiu (mx:Int):K:=kAt [1,1] (kOf (CL mx) 180)
def akL (mx:Int):K:=kAt [1,0,1,0,1,1,1,1,1,0,0] (kOf (CL mx) 180)
def amM (mx:Int):K:=kAt [1,0,1,0,1,1,1,1,1,0,1] (kOf (CL mx) 180)
section
set_option maxRecDepth 100000
variable (mx:Int) (run:Run) (lp:Lp) (κn:Kt) (κx:Ex→Kt) (h:AH) (v0 v1 v2 v5 v6 v7 v8 v9 v11 v12 v16 v31 v52 v77 v80 v85 v90 v105 v130:AV)
theorem afx:kc (CL mx) run lp (acx mx) ⟨cG v0 v1 v2 v5 v6 v7 v8 v9 v11 v12 v16 v31 v52 v77 v80 v85 v90 v105 v130,h⟩ κn κx=gZ 309 v2 h (fun a0 h=>kc (CL mx) run lp (ajc mx) ⟨cG v0 v1 v2 a0 (.int 9223372036854775807 0) v7 v8 v9 v11 v12 v16 v31 v52 v77 v80 v85 v90 v105 v130,h⟩ (fun s=>kc (CL mx) run lp (aiu mx) s κn κx) κx):=by kernel_rfl
theorem ec:kc (CL mx) run lp (ajc mx) ⟨cG v0 v1 v2 v5 v6 v7 v8 v9 v11 v12 v16 v31 v52 v77 v80 v85 v90 v105 v130,h⟩ κn κx=ao 0 v5 h (fun a0 h=>ar a0 h (fun a1 h=>cmp cj a1 (.int 9223372036854775807 11) h (fun a2 h=>bG a2 (ao 1 v5 h (fun a3 h=>ar a3 h (fun a4 h=>κx .ret ⟨cG v0 v1 v2 v5 a4 v7 v8 v9 a1 a2 v16 v31 v52 v77 v80 v85 v90 v105 v130,h⟩))) (cmp cj a1 (.int 9223372036854775807 10) h (fun a3 h=>bG a3 (aC v0 h (fun a4 h=>ao 18 a4 h (fun a5 h=>ar a5 h (fun a6 h=>bH a6 h (fun a7 h=>arith iT a7 (.int 9223372036854775807 1) h (fun a8 h=>aC v0 h (fun a9 h=>ao 18 a9 h (fun a10 h=>ar a10 h (fun a11 h=>bT 1 a11 a8 h (fun a12 h=>ar a12 h (fun a13 h=>cmp cj a13 (.int 18446744073709551615 0) h (fun a14 h=>bG a14 (aC v0 h (fun a15 h=>ao 18 a15 h (fun a16 h=>ar a16 h (fun a17 h=>slS 1 a17 none (some a8) none h (fun a18 h=>aC v0 h (fun a19 h=>ao 18 a19 h (fun a20 h=>cB a20 a18 h (fun a21 h=>ao 1 v5 h (fun a22 h=>ar a22 h (fun a23 h=>κx .ret ⟨cG v0 v1 v2 v5 a23 a8 v8 v9 a1 a2 a3 a14 v52 v77 v80 v85 v90 v105 v130,h⟩)))))))))) (aC v0 h (fun a15 h=>ao 18 a15 h (fun a16 h=>ar a16 h (fun a17 h=>bT 1 a17 a8 h (fun a18 h=>ar a18 h (fun a19 h=>arith iT a19 (.int 18446744073709551615 1) h (fun a20 h=>bT 1 a17 a8 h (fun a21 h=>cB a21 a20 h (fun a22 h=>κn ⟨cG v0 v1 v2 v5 v6 a8 v8 v9 a1 a2 a3 a14 v52 v77 v80 v85 v90 v105 v130,h⟩))))))))))))))))))))) (cmp cj a1 (.int 9223372036854775807 12) h (fun a4 h=>bG a4 (kc (CL mx) run lp (akL mx) ⟨cG v0 v1 v2 v5 v6 v7 v8 v9 a1 a2 a3 v31 a4 v77 v80 v85 v90 v105 v130,h⟩ (fun s=>kc (CL mx) run lp (amM mx) s κn (kcO 0 κn κx)) (kcO 0 κn κx)) (cmp cj a1 (.int 9223372036854775807 13) h (fun a5 h=>bG a5 (aQ 265 v5 h (fun a6 h=>aL (fun a7 h=>κx .ret ⟨cG v0 v1 v2 v5 a7 v7 v8 v9 a1 a2 a3 v31 a4 v77 a5 v85 v90 v105 v130,h⟩) (aD (CL mx) run 230 [v0,a6] h))) (cmp cj a1 (.int 9223372036854775807 14) h (fun a6 h=>bG a6 (aQ 265 v5 h (fun a7 h=>aL (fun a8 h=>κx .ret ⟨cG v0 v1 v2 v5 a8 v7 v8 v9 a1 a2 a3 v31 a4 v77 a5 a6 v90 v105 v130,h⟩) (aD (CL mx) run 231 [v0,a7] h))) (cmp cj a1 (.int 9223372036854775807 15) h (fun a7 h=>bG a7 (aC v0 h (fun a8 h=>ao 19 a8 h (fun a9 h=>ar a9 h (fun a10 h=>arith fu v1 (.int 9223372036854775807 1) h (fun a11 h=>fD 1 1 [.int 9223372036854775807 0] [(0,a11)] h (fun a12 h=>eH 4 1 8 a10 a12 h (fun a13 h=>aC v0 h (fun a14 h=>ao 19 a14 h (fun a15 h=>cB a15 a13 h (fun a16 h=>ao 1 v5 h (fun a17 h=>ar a17 h (fun a18 h=>κx .ret ⟨cG v0 v1 v2 v5 a18 v7 v8 v9 a1 a2 a3 v31 a4 v77 a5 a6 a7 v105 v130,h⟩)))))))))))) (cmp cj a1 (.int 9223372036854775807 16) h (fun a8 h=>bG a8 (aC v0 h (fun a9 h=>ao 19 a9 h (fun a10 h=>ar a10 h (fun a11 h=>bH a11 h (fun a12 h=>arith iT a12 (.int 9223372036854775807 1) h (fun a13 h=>aC v0 h (fun a14 h=>ao 19 a14 h (fun a15 h=>ar a15 h (fun a16 h=>bT 1 a16 a13 h (fun a17 h=>ar a17 h (fun a18 h=>aC v0 h (fun a19 h=>ao 19 a19 h (fun a20 h=>ar a20 h (fun a21 h=>slS 1 a21 none (some a13) none h (fun a22 h=>aC v0 h (fun a23 h=>ao 19 a23 h (fun a24 h=>cB a24 a22 h (fun a25 h=>κx .ret ⟨cG v0 v1 v2 v5 a18 v7 a13 a18 a1 a2 a3 v31 a4 v77 a5 a6 a7 a8 v130,h⟩)))))))))))))))))) (cmp cj a1 (.int 9223372036854775807 20) h (fun a9 h=>bG a9 (κx .ret ⟨cG v0 v1 v2 v5 (.int 9223372036854775807 (-1)) v7 v8 v9 a1 a2 a3 v31 a4 v77 a5 a6 a7 a8 a9,h⟩) (κn ⟨cG v0 v1 v2 v5 v6 v7 v8 v9 a1 a2 a3 v31 a4 v77 a5 a6 a7 a8 a9,h⟩)))))))))))))))))):=by kernel_rfl
theorem xK:kc (CL mx) run lp (aiu mx) ⟨cG v0 v1 v2 v5 v6 v7 v8 v9 v11 v12 v16 v31 v52 v77 v80 v85 v90 v105 v130,h⟩ κn κx=arith fu v1 (.int 9223372036854775807 1) h (fun a0 h=>κx .ret ⟨cG v0 v1 v2 v5 a0 v7 v8 v9 v11 v12 v16 v31 v52 v77 v80 v85 v90 v105 v130,h⟩):=by kernel_rfl
theorem xj:kc (CL mx) run lp (akL mx) ⟨cG v0 v1 v2 v5 v6 v7 v8 v9 v11 v12 v16 v31 v52 v77 v80 v85 v90 v105 v130,h⟩ κn κx=kcR κn κx (fC (sRd [] h (aY v0 h kVH) fun r0=>sRd [r0.v] r0.h' (aC r0.v r0.h' kVH) fun r1=>sRd [r1.v,r0.v] r1.h' (ao 10 r1.v r1.h' kVH) fun r2=>sRd [r2.v,r1.v,r0.v] r2.h' (ar r2.v r2.h' kVH) fun r3=>sRd [r3.v,r2.v,r1.v,r0.v] r3.h' (aY v0 r3.h' kVH) fun r4=>sEf [r4.v,r3.v,r2.v,r1.v,r0.v] r4.h' (aL kVH (aD (CL mx) run 178 [r4.v] r4.h')) fun r5=>sRd [r5.v,r4.v,r3.v,r2.v,r1.v,r0.v] r5.h' (cmp cj r3.v r5.v r5.h' kVH) fun r6=>sRd [r6.v,r5.v,r4.v,r3.v,r2.v,r1.v,r0.v] r6.h' (aY r6.v r6.h' kVH) fun r7=>sRd [r7.v,r6.v,r5.v,r4.v,r3.v,r2.v,r1.v,r0.v] r7.h' (av r7.v false (fun κ=>aY v0 r7.h' κ) r7.h' kVH) fun r8=>sEf [r8.v,r7.v,r6.v,r5.v,r4.v,r3.v,r2.v,r1.v,r0.v] r8.h' (av r7.v false (fun κ=>aL κ (aD (CL mx) run 178 [r8.v] r8.h')) r8.h' kVH) fun r9=>sRd [r9.v,r8.v,r7.v,r6.v,r5.v,r4.v,r3.v,r2.v,r1.v,r0.v] r9.h' (av r7.v false (fun κ=>cmp cj r9.v (.int 9223372036854775807 4611686018427387904) r9.h' κ) r9.h' kVH) fun r10=>sRd [r10.v,r9.v,r8.v,r7.v,r6.v,r5.v,r4.v,r3.v,r2.v,r1.v,r0.v] r10.h' (av r7.v false (fun κ=>aY r10.v r10.h' κ) r10.h' kVH) fun r11=>sRd [r11.v,r10.v,r9.v,r8.v,r7.v,r6.v,r5.v,r4.v,r3.v,r2.v,r1.v,r0.v] r11.h' (av r11.v true (fun κ=>aY v0 r11.h' κ) r11.h' kVH) fun r12=>sRd [r12.v,r11.v,r10.v,r9.v,r8.v,r7.v,r6.v,r5.v,r4.v,r3.v,r2.v,r1.v,r0.v] r12.h' (av r11.v true (fun κ=>aC r12.v r12.h' κ) r12.h' kVH) fun r13=>sRd [r13.v,r12.v,r11.v,r10.v,r9.v,r8.v,r7.v,r6.v,r5.v,r4.v,r3.v,r2.v,r1.v,r0.v] r13.h' (av r11.v true (fun κ=>ao 10 r13.v r13.h' κ) r13.h' kVH) fun r14=>sRd [r14.v,r13.v,r12.v,r11.v,r10.v,r9.v,r8.v,r7.v,r6.v,r5.v,r4.v,r3.v,r2.v,r1.v,r0.v] r14.h' (av r11.v true (fun κ=>ar r14.v r14.h' κ) r14.h' kVH) fun r15=>sRd [r15.v,r14.v,r13.v,r12.v,r11.v,r10.v,r9.v,r8.v,r7.v,r6.v,r5.v,r4.v,r3.v,r2.v,r1.v,r0.v] r15.h' (av r11.v true (fun κ=>aY v0 r15.h' κ) r15.h' kVH) fun r16=>sRd [r16.v,r15.v,r14.v,r13.v,r12.v,r11.v,r10.v,r9.v,r8.v,r7.v,r6.v,r5.v,r4.v,r3.v,r2.v,r1.v,r0.v] r16.h' (av r11.v true (fun κ=>aC r16.v r16.h' κ) r16.h' kVH) fun r17=>sRd [r17.v,r16.v,r15.v,r14.v,r13.v,r12.v,r11.v,r10.v,r9.v,r8.v,r7.v,r6.v,r5.v,r4.v,r3.v,r2.v,r1.v,r0.v] r17.h' (av r11.v true (fun κ=>ao 6 r17.v r17.h' κ) r17.h' kVH) fun r18=>sRd [r18.v,r17.v,r16.v,r15.v,r14.v,r13.v,r12.v,r11.v,r10.v,r9.v,r8.v,r7.v,r6.v,r5.v,r4.v,r3.v,r2.v,r1.v,r0.v] r18.h' (av r11.v true (fun κ=>ar r18.v r18.h' κ) r18.h' kVH) fun r19=>sRd [r19.v,r18.v,r17.v,r16.v,r15.v,r14.v,r13.v,r12.v,r11.v,r10.v,r9.v,r8.v,r7.v,r6.v,r5.v,r4.v,r3.v,r2.v,r1.v,r0.v] r19.h' (av r11.v true (fun κ=>bH r19.v r19.h' κ) r19.h' kVH) fun r20=>sRd [r20.v,r19.v,r18.v,r17.v,r16.v,r15.v,r14.v,r13.v,r12.v,r11.v,r10.v,r9.v,r8.v,r7.v,r6.v,r5.v,r4.v,r3.v,r2.v,r1.v,r0.v] r20.h' (av r11.v true (fun κ=>cmp cj r15.v r20.v r20.h' κ) r20.h' kVH) fun r21=>sRd [r21.v,r20.v,r19.v,r18.v,r17.v,r16.v,r15.v,r14.v,r13.v,r12.v,r11.v,r10.v,r9.v,r8.v,r7.v,r6.v,r5.v,r4.v,r3.v,r2.v,r1.v,r0.v] r21.h' (av r7.v false (fun κ=>fm r11.v r21.v (.bool false) r21.h' κ) r21.h' kVH) fun r22=>sRd [r22.v,r21.v,r20.v,r19.v,r18.v,r17.v,r16.v,r15.v,r14.v,r13.v,r12.v,r11.v,r10.v,r9.v,r8.v,r7.v,r6.v,r5.v,r4.v,r3.v,r2.v,r1.v,r0.v] r22.h' (fm r7.v (.bool true) r22.v r22.h' kVH) fun r23=>bq (and (cz r0 (OK.f (.mk (o1 aY (.tr 0))) (CL mx) run r0.σ (cG v0 v1 v2 v5 v6 v7 v8 v9 v11 v12 v16 v31 v52 v77 v80 v85 v90 v105 v130) (cF (aj r0.h) r5.h') kVH)) (and (cz r1 (OK.f (.mk (o1 aC (.st 0))) (CL mx) run r1.σ (cG v0 v1 v2 v5 v6 v7 v8 v9 v11 v12 v16 v31 v52 v77 v80 v85 v90 v105 v130) (cF (aj r1.h) r5.h') kVH)) (and (cz r2 (OK.f (.mk (o1 (ao 10) (.st 0))) (CL mx) run r2.σ (cG v0 v1 v2 v5 v6 v7 v8 v9 v11 v12 v16 v31 v52 v77 v80 v85 v90 v105 v130) (cF (aj r2.h) r5.h') kVH)) (and (cz r3 (OK.f (.mk (o1 ar (.st 0))) (CL mx) run r3.σ (cG v0 v1 v2 v5 v6 v7 v8 v9 v11 v12 v16 v31 v52 v77 v80 v85 v90 v105 v130) (cF (aj r3.h) r5.h') kVH)) (true))))) (some (.st (cG v0 v1 v2 v5 v6 v7 v8 v9 v11 v12 v16 v31 v52 r23.v v80 v85 v90 v105 v130) r23.h')) none)):=(gL (C:=CL mx) (D:=bC (CL mx) (opsOf (cAt [1,0,1,0,1,1,1,1,1,0,0] (aH (CL mx) 180))).toList (bM (opsOf (cAt [1,0,1,0,1,1,1,1,1,0,0] (aH (CL mx) 180))).toList) 0 (aV (CL mx) (opsOf (cAt [1,0,1,0,1,1,1,1,1,0,0] (aH (CL mx) 180))).toList [] (opsOf (cAt [1,0,1,0,1,1,1,1,1,0,0] (aH (CL mx) 180))).toList)) (pl:=bo (CL mx) (opsOf (cAt [1,0,1,0,1,1,1,1,1,0,0] (aH (CL mx) 180)))) (fl:=flL [0,1,2,5,6,7,8,9,11,12,16,31,52,77,80,85,90,105,130] (opsOf (cAt [1,0,1,0,1,1,1,1,1,0,0] (aH (CL mx) 180))).toList) (by kernel_rfl) _ _ _).trans (by kernel_rfl)
theorem wF:kc (CL mx) run lp (amM mx) ⟨cG v0 v1 v2 v5 v6 v7 v8 v9 v11 v12 v16 v31 v52 v77 v80 v85 v90 v105 v130,h⟩ κn κx=bG v77 (ao 1 v5 h (fun a0 h=>ar a0 h (fun a1 h=>κx .ret ⟨cG v0 v1 v2 v5 a1 v7 v8 v9 v11 v12 v16 v31 v52 v77 v80 v85 v90 v105 v130,h⟩))) (κn ⟨cG v0 v1 v2 v5 v6 v7 v8 v9 v11 v12 v16 v31 v52 v77 v80 v85 v90 v105 v130,h⟩):=by kernel_rfl
theorem vw:aW (cG v0 v1 v2 v5 v6 v7 v8 v9 v11 v12 v16 v31 v52 v77 v80 v85 v90 v105 v130) 0=v0:=(rfl)
theorem fy:kcE (CL mx) [.tmp 6] ⟨cG v0 v1 v2 v5 v6 v7 v8 v9 v11 v12 v16 v31 v52 v77 v80 v85 v90 v105 v130,h⟩=some (.vh v6 h):=(bJ _ _ _).trans (by kernel_rfl)
theorem anQ:dp (CL mx) 180=some ⟨acx mx,[0,1,2,5,6,7,8,9,11,12,16,31,52,77,80,85,90,105,130],134,[.tmp 6]⟩:=by kernel_rfl
end
theorem aiY (mx:Int) (run:Run) (lp:Lp) (x0 x1 x2:AV) (h:AH):cW (CL mx) run lp 180 [x0,x1,x2] h=vhO (kc (CL mx) run lp (acx mx) ⟨cG x0 x1 x2 .bot .bot .bot .bot .bot .bot .bot .bot .bot .bot .bot .bot .bot .bot .bot .bot,h⟩ (kcE (CL mx) [.tmp 6]) (kcQ (CL mx) [.tmp 6])):=(bK (by kernel_rfl) (anQ mx) (by kernel_rfl)).trans (by kernel_rfl)
end
section
variable {mx:Int} {m:Nat} {K:RC} {kd:Nat→Nat} {h:AH} {p:Nat} {c:PC} {s:PR}
def stI:Option Nat→Int
 |some j=>j
 |none=> -1
theorem apk (x:AV) (h:AH):cQ (h++[some (.cells [x] 0)]) 1 1 (.slo h.length 0 1 1 1 true)=some [x]:=by
 unfold cQ
 simp only [aI]
 rfl
theorem ad6 {j:Nat} {v x:AV} {rows:List (List AV)} (o:OwR h (fun b=>kd b=j) 1 v rows) (hp:x.plain=true) (hl:rows.length≤100000) (ty:Nat) {by_:Nat} (hby:by_≤1000):
 ∃v' h3,(∀κ:Ka,eH ty 1 by_ v (.slo h.length 0 1 1 1 true) (h++[some (.cells [x] 0)]) κ=κ v' h3)∧OwR h3 (fun i=>(kd i=j∧i<h.length)∨i=h.length+1) 1 v' (rows++[[x]])∧h.length+1≤h3.length∧ ∀i,kd i≠j→i<h.length→ae h3 i=ae h i:=by
 have r2:OwR (h++[some (Blk.cells [x] 0)]) (fun b=>kd b=j∧b<h.length) 1 v rows:=o.mono fun b hb hs=>⟨⟨hs,hb⟩,aq hb _⟩
 obtain ⟨v',h1,a1,a2,a3,a4⟩:=r2.app ty hby (by decide) (x:=.slo h.length 0 1 1 1 true) (q:=[x]) rfl (apk x h) rfl (by show and x.plain true=true;rw [hp];rfl) hl
 have hlen:(h++[some (Blk.cells [x] 0)]).length=h.length+1:=by simp
 rw [hlen] at a2 a3 a4
 exact ⟨v',h1,a1,a2,a3,fun i hi hl=>by rw [a4 i (fun cc=>hi cc.1) (by omega),aq hl]⟩
def PreT (m:Nat) (h:AH) (wv:AV) (bs:List AV) (q:PS) (s:PR):Prop:=
 (q.kind=11∧0≤q.a)∨(q.kind=10∧0≤q.a∧s.counts≠[]∧s.counts.length≤100000∧ ∀n∈s.counts,n<18446744073709551616)∨(q.kind=12∧0≤q.a)∨
 (q.kind=13∧RdR h (fun b=>b<m) 2 wv (q.ways.map ie)∧q.ways.length≤1000000∧0≤q.a∧q.a<(s.slots.length:Int)∧ ∀x∈s.slots,x<18446744073709551616)∨
 (q.kind=15∧0≤q.a∧s.calls.length≤100000)∨(q.kind=16∧s.calls≠[]∧s.calls.length≤100000)∨q.kind=20∨(q.kind=14∧bs=aS q.bytes∧RdR h (fun b=>b<m) 2 wv (q.ways.map ie)∧(∀x∈q.bytes,x<256)∧(∀x∈q.bytes,x≤q.ways.length)∧q.ways.length≤1000)
theorem ahF (R:RS m K kd h p c s) (W:Wf c s) (W1:Wf c (s.open_ c)) {q:PS} {wv:AV} {bs:List AV} (hbs:(stC q wv bs).length=265) (hpl:aR (stC q wv bs)=true) (hk:PreT m h wv bs q s) {i:Nat} (hi:i≤1000000) (f:Nat):
 aG (fun x h'=>x= .int 9223372036854775807 (stI (s.step c q i).1)∧Nx h.length m K kd h p c (s.step c q i).2 h') ((rl (CL mx) (f+q.ways.length+20)).run 180 [.pto p 0,.int 9223372036854775807 (i:Int),.agg (stC q wv bs)] h):=by
 refine aG.runs (n:=f+q.ways.length+19) (aiY mx _ _ _ _ _ _) ?_
 have hz:=aI h (some (Blk.cells (stC q wv bs) (308+1)))
 have R0:=R.grow (h':=h++[some (Blk.cells (stC q wv bs) (308+1))]) (by simp) (fun i hi=>aq hi _)
 have bx: ∀κ:Ka,gZ (308+1) (.agg (stC q wv bs)) h κ=κ (.pto h.length 0) (h++[some (Blk.cells (stC q wv bs) (308+1))]):=fun κ=>by rw [dP];rfl
 have fz: ∀i,i<h.length→ae (h++[some (Blk.cells (stC q wv bs) (308+1))]) i=ae h i:=fun i hi=>aq hi _
 have hl0:(h++[some (Blk.cells (stC q wv bs) (308+1))]).length=h.length+1:=by simp
 have k0:cN kd h.length 0 h.length=0:=fP (Nat.le_refl _)
 have gl:decide (265≤(stC q wv bs).length)=true:=by rw [hbs];rfl
 have tk:List.take 265 (stC q wv bs)=stC q wv bs:=by rw [←hbs,List.take_length]
 have f0:h.length≤(h++[some (Blk.cells (stC q wv bs) (308+1))]).length∧ ∀i,i<h.length→kd i=0→ae (h++[some (Blk.cells (stC q wv bs) (308+1))]) i=ae h i∧cN kd h.length 0 i=0:=⟨by omega,fun i hi h0=>⟨fz i hi,by rw [bR hi];exact h0⟩⟩
 have w1:aZ 9223372036854775807 ((i:Int)+1)=((i+1:Nat):Int):=by rw [bd (by omega) (by omega)];simp
 refine wEq (afx ..) ?_
 refine wEq (bx _) ?_
 have ow0: ∀{v:AV} {rows:List (List AV)},RdR h (fun b=>b<m) 2 v rows→RdR (h++[some (Blk.cells (stC q wv bs) (308+1))]) (fun b=>b<m) 2 v rows:=fun o=>o.mono fun b hb hs=>⟨hs,fz b hb⟩
 generalize h++[some (Blk.cells (stC q wv bs) (308+1))]=h0 at*
 obtain ⟨stp,y,sl,st,ct,cl,QQ,hp,o2,o3,ok,o4,o5⟩:=R0.ex
 have hp':=hp
 unfold rdL at hp'
 have hpl0:=aO hp
 have fin: ∀{s':PR} {h':AH},Nx h0.length m K (cN kd h.length 0) h0 p c s' h'→Nx h.length m K kd h p c s' h':=fun nx=>by
  obtain ⟨kd',R',l',f'⟩:=nx
  exact ⟨kd',R',by omega,fun i hi hi0=>⟨(f' i (by omega) (f0.2 i hi hi0).2).1.trans (fz i hi),(f' i (by omega) (f0.2 i hi hi0).2).2⟩⟩
 rcases hk with ⟨k,ha⟩|⟨k,ha,c0,c1,c2⟩|⟨k,ha⟩|⟨k,hw⟩|⟨k,ha,c1⟩|⟨k,c0,c1⟩|k|⟨k,hby,hw,hb8,hkk,hwl⟩
 ·have k':(q.kind:Int)=11:=by omega
  have e:s.step c q i=(some q.a.toNat,s):=by unfold PR.step;simp [k]
  rw [e]
  simp only [sy,List.length_append,Nat.reduceAdd,Nat.reduceMul,Nat.reduceSub,Nat.reduceLeDiff,Nat.reduceEqDiff,Nat.reduceLT,reduceIte,ec,hz,eK,k',Int.reduceEq,decide_true,decide_false,fy]
  exact Ends.mk ⟨by show _=AV.int _ ((q.a.toNat:Nat):Int);rw [Int.toNat_of_nonneg ha],fin ⟨_,R0,Nat.le_refl _,fun i hi h0=>⟨rfl,h0⟩⟩⟩
 ·have k':(q.kind:Int)=10:=by omega
  obtain ⟨n,r,hcs⟩: ∃n r,s.counts=n::r:=by
   cases hc:s.counts with
   |nil=>exact absurd hc c0
   |cons n r=>exact ⟨n,r,rfl⟩
  have o4':=o4
  rw [hcs,List.reverse_cons] at o4'
  have hn:=c2 n (by rw [hcs];exact List.mem_cons_self ..)
  have hrl:r.length+1≤100000:=by rw [hcs] at c1;exact c1
  obtain ⟨P,b,X,ix,ld,hs,st1,o'⟩:=pL o4' (i:=r.length) (by simp) (n-1)
  have hs:cN kd h.length 0 b=4:=hs
  have gn:(r.reverse++[n]).getD r.length 0=n:=by simp [List.getD_eq_getElem?_getD]
  have sn:(r.reverse++[n]).set r.length (n-1)=((n-1)::r).reverse:=by
   have:=mA r.reverse [] n (n-1)
   rw [List.length_reverse] at this
   rw [this,List.reverse_cons]
  rw [gn] at ld
  rw [sn] at o'
  have len:=fun (h':AH) (κ:Ka)=>o4'.bH h' κ
  rw [List.length_map,List.length_append,List.length_reverse] at len
  have len: ∀(h':AH) (κ:Ka),bH ct h' κ=κ (.int 9223372036854775807 ((r.length+1:Nat):Int)) h':=len
  have w2:aZ 9223372036854775807 (((r.length+1:Nat):Int)-1)=(r.length:Int):=by rw [bd (by omega) (by omega)];simp
  by_cases hn0:n=0
  ·have e:s.step c q i=(some q.a.toNat,{s with counts:=r}):=by unfold PR.step;simp [k,hcs,hn0]
   rw [e]
   have g:decide ((n:Int)=0)=true:=by rw [decide_eq_true_iff];omega
   obtain ⟨v',c3,c4⟩:=o4'.cut (by decide) (by simp) (m:=r.length) (by simp) 9223372036854775807
   have ht:(List.map (fun n=>[U64 n]) (r.reverse++[n])).take r.length=List.map (fun n=>[U64 n]) r.reverse:=by
    rw [List.map_append,List.take_append_of_le_length (by simp),List.take_of_length_le (by simp)]
   rw [ht] at c4
   simp only [sy,List.length_append,Nat.reduceAdd,Nat.reduceMul,Nat.reduceSub,Nat.reduceLeDiff,Nat.reduceEqDiff,Nat.reduceLT,reduceIte,ec,hz,eK,k',Int.reduceEq,decide_true,decide_false,hp',len,w2,ix,ld,g,c3,c4.plain,ai (R0.iI k0),fy]
   have R2:=R0.upd (s':={s with counts:=r}) (stp':=stp) (y':=y) o2 o3 ok c4 o5
   exact Ends.mk ⟨by show _=AV.int _ ((q.a.toNat:Nat):Int);rw [Int.toNat_of_nonneg ha],fin ⟨_,R2,by rw [List.length_set];exact Nat.le_refl _,fun i hi h0=>⟨ai (R0.iI h0) _,h0⟩⟩⟩
  ·have e:s.step c q i=(some (i+1),{s with counts:=(n-1)::r}):=by unfold PR.step;simp [k,hcs,hn0]
   rw [e]
   have g:decide ((n:Int)=0)=false:=by rw [decide_eq_false_iff_not];omega
   have w3:aZ 18446744073709551615 ((n:Int)-1)=((n-1:Nat):Int):=by rw [gz (by omega) (by omega)];omega
   simp only [sy,List.length_append,Nat.reduceAdd,Nat.reduceMul,Nat.reduceSub,Nat.reduceLeDiff,Nat.reduceEqDiff,Nat.reduceLT,reduceIte,ec,xK,hz,eK,k',Int.reduceEq,decide_true,decide_false,hp',len,w1,w2,w3,ix,ld,g,st1,fy]
   have fr: ∀i,cN kd h.length 0 i≠4→ae (h0.set b X) i=ae h0 i:=fun i hi=>ai (fun cc=>hi (by rw [←cc];exact hs)) _
   have mm: ∀{j:Nat},j≠4→ ∀b',b'<h0.length→cN kd h.length 0 b'=j→cN kd h.length 0 b'=j∧ae (h0.set b X) b'=ae h0 b':=fun hj b' hb' e=>⟨e,fr b' (by rw [e];exact hj)⟩
   refine Ends.mk ⟨rfl,fin ⟨_,R0.make (s':={s with counts:=(n-1)::r}) (stp':=stp) (y':=y) (sl:=sl) (st:=st) (ct:=ct) (cl:=cl) (Q:=QQ) R0.kp (fun i hi=>⟨R0.lo i hi,fr i (by rw [R0.lo i hi];decide)⟩) (by rw [List.length_set];exact Nat.le_refl _) (by rw [fr p (by rw [R0.kp];decide)];exact hp) (o2.mono (mm (by decide))) (o3.mono (mm (by decide))) (ok.mono fun b' hb' h1 _=>⟨rfl,fr b' (by omega)⟩) o' (o5.mono (mm (by decide))),by rw [List.length_set];exact Nat.le_refl _,fun i hi h0=>⟨fr i (by rw [h0];decide),h0⟩⟩⟩
 ·have k':(q.kind:Int)=12:=by omega
  have el:=aa1 (mx:=mx) R0 (f+q.ways.length+18)
  have hlen:=R.len
  have wat:=W.at_
  have len:=fun κ=>R0.dat.at.bH h0 κ
  rw [bW] at len
  have g1:decide ((s.at_:Int)=4611686018427387904)=false:=by rw [decide_eq_false_iff_not];omega
  have ltp: ∀j,AV.lt (aj h0) (.pto p j)=true:=fun j=>by rw [gH,ah,decide_eq_true_iff];exact hpl0
  have lti: ∀(k:Nat) (x:Int),AV.lt (aj h0) (.int k x)=true:=fun k x=>rfl
  by_cases hat:s.at_=c.data.length
  ·have e:s.step c q i=(some q.a.toNat,s):=by unfold PR.step;simp [k,hat]
   rw [e]
   have g:decide ((s.at_:Int)=(c.data.length:Int))=true:=by rw [decide_eq_true_iff];omega
   simp only [sy,List.length_append,Nat.reduceAdd,Nat.reduceMul,Nat.reduceSub,Nat.reduceLeDiff,Nat.reduceEqDiff,Nat.reduceLT,reduceIte,ec,xj,wF,fN,ij,fV,hz,eK,k',Int.reduceEq,decide_true,decide_false,hp',n64,el,g1,g,len,cT,ji,o1,nq,mz,j2,jU,vw,cV,ltp,lti,fB,fy]
   exact Ends.mk ⟨by show _=AV.int _ ((q.a.toNat:Nat):Int);rw [Int.toNat_of_nonneg ha],fin ⟨_,R0,Nat.le_refl _,fun i hi h0=>⟨rfl,h0⟩⟩⟩
  ·have e:s.step c q i=(some (i+1),s):=by unfold PR.step;simp [k,hat]
   rw [e]
   have g:decide ((s.at_:Int)=(c.data.length:Int))=false:=by rw [decide_eq_false_iff_not];omega
   simp only [sy,List.length_append,Nat.reduceAdd,Nat.reduceMul,Nat.reduceSub,Nat.reduceLeDiff,Nat.reduceEqDiff,Nat.reduceLT,reduceIte,ec,xK,xj,wF,fN,ij,fV,hz,eK,k',Int.reduceEq,decide_true,decide_false,hp',n64,el,g1,g,len,w1,cT,ji,o1,nq,mz,j2,jU,vw,cV,ltp,lti,fB,fy]
   exact Ends.mk ⟨rfl,fin ⟨_,R0,Nat.le_refl _,fun i hi h0=>⟨rfl,h0⟩⟩⟩
 ·have k':(q.kind:Int)=13:=by omega
  have e:s.step c q i=(some (s.pick q).1,(s.pick q).2):=by unfold PR.step;simp [k]
  rw [e]
  simp only [sy,List.length_append,Nat.reduceAdd,Nat.reduceMul,Nat.reduceSub,Nat.reduceLeDiff,Nat.reduceEqDiff,Nat.reduceLT,reduceIte,ec,hz,eK,k',Int.reduceEq,decide_true,decide_false,gl,tk]
  have pg:=ago (mx:=mx) R0 W hbs hpl (ow0 hw.1) hw.2.1 ⟨hw.2.2.1,hw.2.2.2.1⟩ hw.2.2.2.2 (f+9)
  rw [show f+9+q.ways.length+10=f+q.ways.length+19 by omega] at pg
  refine bE pg.call ?_
  rintro x h' ⟨rfl,nx⟩
  simp only [sy,List.length_append,Nat.reduceAdd,Nat.reduceMul,Nat.reduceSub,Nat.reduceLeDiff,Nat.reduceEqDiff,Nat.reduceLT,reduceIte,fy]
  exact Ends.mk ⟨rfl,fin nx⟩
 ·have k':(q.kind:Int)=15:=by omega
  have e:s.step c q i=(some q.a.toNat,{s with calls:=(i+1)::s.calls}):=by unfold PR.step;simp [k]
  rw [e]
  obtain ⟨v',h3,a1,a2,a3,a4⟩:=ad6 o5 (x:=N64 (i+1)) rfl (by simpa using c1) (3+1) (by_:=8) (by decide)
  have hp3:ae h3 p=some (.cells (rdL K c s stp sl st ct cl) y):=by rw [a4 p (by rw [R0.kp];decide) hpl0];exact hp
  have hz3:ae h3 h.length=some (.cells (stC q wv bs) (308+1)):=by rw [a4 _ (by rw [k0];decide) (by omega)];exact hz
  have hp3':=hp3
  unfold rdL at hp3'
  rw [show N64 (i+1)= .int 9223372036854775807 ((i+1:Nat):Int) from rfl] at a1
  have pl:v'.plain=true:=a2.plain
  simp only [sy,List.length_append,Nat.reduceAdd,Nat.reduceMul,Nat.reduceSub,Nat.reduceLeDiff,Nat.reduceEqDiff,Nat.reduceLT,reduceIte,ec,hz,eK,k',Int.reduceEq,decide_true,decide_false,hp',w1,alc,a1,hp3',pl,ai (R0.iI k0),hz3,fy]
  let kd2:Nat→Nat:=fun i=>if i<h0.length then cN kd h.length 0 i else if i=h0.length+1 then 5 else 0
  have k2l: ∀i,i<h0.length→kd2 i=cN kd h.length 0 i:=fun i hi=>if_pos hi
  have k2n:kd2 (h0.length+1)=5:=by show (if h0.length+1<h0.length then _ else if h0.length+1=h0.length+1 then 5 else 0)=5;rw [if_neg (by omega),if_pos rfl]
  have fr: ∀i,i<h0.length→cN kd h.length 0 i≠5→i≠p→ ∀Y,ae (h3.set p Y) i=ae h0 i:=fun i hi h5 hip Y=>by rw [ai (Ne.symm hip),a4 i h5 hi]
  have mm: ∀{j:Nat} {Y:Option Blk},j≠1→j≠5→ ∀b',b'<h0.length→cN kd h.length 0 b'=j→kd2 b'=j∧ae (h3.set p Y) b'=ae h0 b':=fun h1' h5' b' hb' e=>⟨by rw [k2l _ hb'];exact e,fr b' hb' (by rw [e];exact h5') (fun cc=>h1' (by rw [←e,cc];exact R0.kp)) _⟩
  have hml:=R0.ml
  refine Ends.mk ⟨by show _=AV.int _ ((q.a.toNat:Nat):Int);rw [Int.toNat_of_nonneg ha],fin ⟨kd2,R0.make (s':={s with calls:=(i+1)::s.calls}) (stp':=stp) (y':=y) (sl:=sl) (st:=st) (ct:=ct) (cl:=v') (Q:=QQ) (by rw [k2l p hpl0];exact R0.kp) (fun i hi=>⟨by rw [k2l i (by omega)];exact R0.lo i hi,fr i (by omega) (by rw [R0.lo i hi];decide) (Ne.symm (R0.iI (R0.lo i hi))) _⟩) (by rw [List.length_set];omega) (az (by omega) _) (o2.mono (mm (by decide) (by decide))) (o3.mono (mm (by decide) (by decide))) (ok.mono fun b' hb' h1 _=>⟨k2l b' hb',fr b' hb' (by omega) (fun cc=>by rw [cc,R0.kp] at h1;omega) _⟩) (o4.mono (mm (by decide) (by decide))) ?_,by rw [List.length_set];omega,fun i hi h0'=>⟨fr i hi (by rw [h0'];decide) (Ne.symm (R0.iI h0')) _,by rw [k2l i hi];exact h0'⟩⟩⟩
  have hmp:(List.map (fun n=>[N64 n]) s.calls.reverse++[[N64 (i+1)]])=List.map (fun n=>[N64 n]) ((i+1)::s.calls).reverse:=by simp
  rw [hmp] at a2
  refine a2.mono fun b' hb' hs'=>?_
  rcases hs' with ⟨hs',hlt⟩|rfl
  ·exact ⟨by show kd2 b'=5;rw [k2l b' hlt];exact hs',ai (fun cc=>by rw [←cc,R0.kp] at hs';cases hs') _⟩
  ·exact ⟨k2n,ai (by omega) _⟩
 ·have k':(q.kind:Int)=16:=by omega
  obtain ⟨n,r,hcs⟩: ∃n r,s.calls=n::r:=by
   cases hc:s.calls with
   |nil=>exact absurd hc c0
   |cons n r=>exact ⟨n,r,rfl⟩
  have o5':=o5
  rw [hcs,List.reverse_cons] at o5'
  have hrl:r.length+1≤100000:=by rw [hcs] at c1;exact c1
  have e:s.step c q i=(some n,{s with calls:=r}):=by unfold PR.step;simp [k,hcs]
  rw [e]
  obtain ⟨b,_,el⟩:=o5'.el (i:=r.length) (q:=[N64 n]) (by simp)
  have ix:=el.idx
  have ld:=el.ld1 0 (N64 n) rfl
  rw [Nat.add_zero] at ld
  obtain ⟨P,hPP⟩: ∃P,P=AV.pto b (r.length*1):=⟨_,rfl⟩
  rw [←hPP] at ix ld
  have len:=fun (h':AH) (κ:Ka)=>o5'.bH h' κ
  rw [List.length_map,List.length_append,List.length_reverse] at len
  have len: ∀(h':AH) (κ:Ka),bH cl h' κ=κ (.int 9223372036854775807 ((r.length+1:Nat):Int)) h':=len
  have w2:aZ 9223372036854775807 (((r.length+1:Nat):Int)-1)=(r.length:Int):=by rw [bd (by omega) (by omega)];simp
  obtain ⟨v',c3,c4⟩:=o5'.cut (by decide) (by simp) (m:=r.length) (by simp) 9223372036854775807
  have ht:(List.map (fun n=>[N64 n]) (r.reverse++[n])).take r.length=List.map (fun n=>[N64 n]) r.reverse:=by
   rw [List.map_append,List.take_append_of_le_length (by simp),List.take_of_length_le (by simp)]
  rw [ht] at c4
  simp only [sy,List.length_append,Nat.reduceAdd,Nat.reduceMul,Nat.reduceSub,Nat.reduceLeDiff,Nat.reduceEqDiff,Nat.reduceLT,reduceIte,ec,hz,eK,k',Int.reduceEq,decide_true,decide_false,hp',len,w2,ix,ld,c3,c4.plain,fy]
  have R2:=R0.upd (s':={s with calls:=r}) (stp':=stp) (y':=y) o2 o3 ok o4 c4
  exact Ends.mk ⟨rfl,fin ⟨_,R2,by rw [List.length_set];exact Nat.le_refl _,fun i hi h0=>⟨ai (R0.iI h0) _,h0⟩⟩⟩
 ·have k':(q.kind:Int)=20:=by omega
  have e:s.step c q i=(none,s):=by unfold PR.step;simp [k]
  rw [e]
  simp only [sy,List.length_append,Nat.reduceAdd,Nat.reduceMul,Nat.reduceSub,Nat.reduceLeDiff,Nat.reduceEqDiff,Nat.reduceLT,reduceIte,ec,hz,eK,k',Int.reduceEq,decide_true,decide_false,fy]
  exact Ends.mk ⟨rfl,fin ⟨_,R0,Nat.le_refl _,fun i hi h0=>⟨rfl,h0⟩⟩⟩
 ·have k':(q.kind:Int)=14:=by omega
  have e:s.step c q i=(some (s.choose c q).1,(s.choose c q).2):=by unfold PR.step;simp [k]
  rw [e]
  simp only [sy,List.length_append,Nat.reduceAdd,Nat.reduceMul,Nat.reduceSub,Nat.reduceLeDiff,Nat.reduceEqDiff,Nat.reduceLT,reduceIte,ec,hz,eK,k',Int.reduceEq,decide_true,decide_false,gl,tk]
  refine bE (afk (mx:=mx) R0 W W1 hbs hpl hby (ow0 hw) hb8 hkk hwl (f+q.ways.length+9)).call ?_
  rintro x h' ⟨rfl,nx⟩
  simp only [sy,List.length_append,Nat.reduceAdd,Nat.reduceMul,Nat.reduceSub,Nat.reduceLeDiff,Nat.reduceEqDiff,Nat.reduceLT,reduceIte,fy]
  exact Ends.mk ⟨rfl,fin nx⟩
end
end Go.Proofs.YteapfopaiocpeaaGreatDoor
