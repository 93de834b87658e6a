/- Are some records the same: the law's own function. Its code is printed by a program. -/
import Derived.Test.YteapfopaiocpeaaGreatDoorRs
namespace Go.Proofs.YteapfopaiocpeaaGreatDoor
set_option linter.unusedSimpArgs false
set_option linter.unusedVariables false
set_option linter.unnecessarySimpa false
set_option linter.defProp false
noncomputable section
def cR (v0 v1 v4 v5 v10 v12 v13 v14 v67:AV):Tm:=(.nd 10 (.nd 4 (.nd 1 (.lf 0 v0) (.lf 1 v1)) (.nd 5 (.lf 4 v4) (.lf 5 v5))) (.nd 13 (.nd 12 (.lf 10 v10) (.lf 12 v12)) (.nd 14 (.lf 13 v13) (.nd 67 (.lf 14 v14) (.lf 67 v67)))))
def abv (mx:Int):K:=kAt [] (kOf (CL mx) 10)
def ajg (mx:Int):K:=kAt [1,1,0] (kOf (CL mx) 10)
def aiZ (mx:Int):K:=kAt [1,1,1] (kOf (CL mx) 10)
def acM (mx:Int):K:=kAt [1,1,0,1,0,0] (kOf (CL mx) 10)
def amD (mx:Int):K:=kAt [1,1,0,1,0,0,1,1,0] (kOf (CL mx) 10)
def akS (mx:Int):K:=kAt [1,1,0,1,0,0,1,1,1] (kOf (CL mx) 10)
def alM (mx:Int):K:=kAt [1,1,0,1,0,0,1,1,0,0,1,0] (kOf (CL mx) 10)
def amd (mx:Int):K:=kAt [1,1,0,1,0,0,1,1,0,0,1,1] (kOf (CL mx) 10)
section
set_option maxRecDepth 100000
variable (mx:Int) (run:Run) (lp:Lp) (κn:Kt) (κx:Ex→Kt) (h:AH) (v0 v1 v4 v5 v10 v12 v13 v14 v67:AV)
theorem xD:kc (CL mx) run lp (abv mx) ⟨cR v0 v1 v4 v5 v10 v12 v13 v14 v67,h⟩ κn κx=bH v0 h (fun a0 h=>bH v1 h (fun a1 h=>cmp ine a0 a1 h (fun a2 h=>bG a2 (κx .ret ⟨cR v0 v1 (.bool false) v5 a2 v12 v13 v14 v67,h⟩) (kc (CL mx) run lp (ajg mx) ⟨cR v0 v1 (.bool false) v5 a2 v12 v13 v14 v67,h⟩ (fun s=>kc (CL mx) run lp (aiZ mx) s κn κx) κx)))):=by kernel_rfl
theorem af3:kc (CL mx) run lp (ajg mx) ⟨cR v0 v1 v4 v5 v10 v12 v13 v14 v67,h⟩ κn κx=bH v0 h (fun a0 h=>kcR κn (kcO 0 κn κx) (lp (acM mx) ⟨cR v0 v1 v4 v5 v10 a0 (.int 9223372036854775807 0) v14 v67,h⟩)):=by kernel_rfl
theorem agm:kc (CL mx) run lp (aiZ mx) ⟨cR v0 v1 v4 v5 v10 v12 v13 v14 v67,h⟩ κn κx=κx .ret ⟨cR v0 v1 (.bool true) v5 v10 v12 v13 v14 v67,h⟩:=by kernel_rfl
theorem iQ:kc (CL mx) run lp (acM mx) ⟨cR v0 v1 v4 v5 v10 v12 v13 v14 v67,h⟩ κn κx=cmp ilt v13 v12 h (fun a0 h=>bG a0 (kc (CL mx) run lp (amD mx) ⟨cR v0 v1 v4 v5 v10 v12 v13 a0 v67,h⟩ (fun s=>kc (CL mx) run lp (akS mx) s κn κx) κx) (κx (.exit 0) ⟨cR v0 v1 v4 v5 v10 v12 v13 a0 v67,h⟩)):=by kernel_rfl
theorem kE:kc (CL mx) run lp (amD mx) ⟨cR v0 v1 v4 v5 v10 v12 v13 v14 v67,h⟩ κn κx=kc (CL mx) run lp (alM mx) ⟨cR v0 v1 v4 v13 v10 v12 v13 v14 v67,h⟩ (fun s=>kc (CL mx) run lp (amd mx) s κn (kcO 1 κn κx)) (kcO 1 κn κx):=by kernel_rfl
theorem kG:kc (CL mx) run lp (akS mx) ⟨cR v0 v1 v4 v5 v10 v12 v13 v14 v67,h⟩ κn κx=arith fu v13 (.int 9223372036854775807 1) h (fun a0 h=>κn ⟨cR v0 v1 v4 v5 v10 v12 a0 v14 v67,h⟩):=by kernel_rfl
theorem kB:kc (CL mx) run lp (alM mx) ⟨cR v0 v1 v4 v5 v10 v12 v13 v14 v67,h⟩ κn κx=bT 4 v0 v5 h (fun a0 h=>ao 0 a0 h (fun a1 h=>ar a1 h (fun a2 h=>bT 4 v1 v5 h (fun a3 h=>ao 0 a3 h (fun a4 h=>ar a4 h (fun a5 h=>cmp ine a2 a5 h (fun a6 h=>av a6 false (fun κ=>aY v0 h κ) h (fun a7 h=>av a6 false (fun κ=>aY v5 h κ) h (fun a8 h=>av a6 false (fun κ=>bT 4 a7 a8 h κ) h (fun a9 h=>av a6 false (fun κ=>ao 1 a9 h κ) h (fun a10 h=>av a6 false (fun κ=>ar a10 h κ) h (fun a11 h=>av a6 false (fun κ=>aY v1 h κ) h (fun a12 h=>av a6 false (fun κ=>aY v5 h κ) h (fun a13 h=>av a6 false (fun κ=>bT 4 a12 a13 h κ) h (fun a14 h=>av a6 false (fun κ=>ao 1 a14 h κ) h (fun a15 h=>av a6 false (fun κ=>ar a15 h κ) h (fun a16 h=>av a6 false (fun κ=>cmp ine a11 a16 h κ) h (fun a17 h=>fm a6 (.bool true) a17 h (fun a18 h=>av a18 false (fun κ=>aY v0 h κ) h (fun a19 h=>av a18 false (fun κ=>aY v5 h κ) h (fun a20 h=>av a18 false (fun κ=>bT 4 a19 a20 h κ) h (fun a21 h=>av a18 false (fun κ=>ao 2 a21 h κ) h (fun a22 h=>av a18 false (fun κ=>ar a22 h κ) h (fun a23 h=>av a18 false (fun κ=>aY v1 h κ) h (fun a24 h=>av a18 false (fun κ=>aY v5 h κ) h (fun a25 h=>av a18 false (fun κ=>bT 4 a24 a25 h κ) h (fun a26 h=>av a18 false (fun κ=>ao 2 a26 h κ) h (fun a27 h=>av a18 false (fun κ=>ar a27 h κ) h (fun a28 h=>av a18 false (fun κ=>cmp ine a23 a28 h κ) h (fun a29 h=>fm a18 (.bool true) a29 h (fun a30 h=>av a30 false (fun κ=>aY v0 h κ) h (fun a31 h=>av a30 false (fun κ=>aY v5 h κ) h (fun a32 h=>av a30 false (fun κ=>bT 4 a31 a32 h κ) h (fun a33 h=>av a30 false (fun κ=>ao 3 a33 h κ) h (fun a34 h=>av a30 false (fun κ=>ar a34 h κ) h (fun a35 h=>av a30 false (fun κ=>fj a35 h κ) h (fun a36 h=>av a30 false (fun κ=>aY v1 h κ) h (fun a37 h=>av a30 false (fun κ=>aY v5 h κ) h (fun a38 h=>av a30 false (fun κ=>bT 4 a37 a38 h κ) h (fun a39 h=>av a30 false (fun κ=>ao 3 a39 h κ) h (fun a40 h=>av a30 false (fun κ=>ar a40 h κ) h (fun a41 h=>av a30 false (fun κ=>fj a41 h κ) h (fun a42 h=>av a30 false (fun κ=>j5 neS a36 a42 h κ) h (fun a43 h=>fm a30 (.bool true) a43 h (fun a44 h=>κn ⟨cR v0 v1 v4 v5 v10 v12 v13 v14 a44,h⟩))))))))))))))))))))))))))))))))))))))))))))):=(cE (C:=CL mx) (ops:=opsOf (cAt [1,1,0,1,0,0,1,1,0,0,1,0] (aH (CL mx) 10))) (ps:=[0,1,4,5,10,12,13,14,67]) (by kernel_rfl) (by kernel_rfl) _ _ _).trans (by kernel_rfl)
theorem kM:kc (CL mx) run lp (amd mx) ⟨cR v0 v1 v4 v5 v10 v12 v13 v14 v67,h⟩ κn κx=bG v67 (κx .ret ⟨cR v0 v1 (.bool false) v5 v10 v12 v13 v14 v67,h⟩) (κn ⟨cR v0 v1 v4 v5 v10 v12 v13 v14 v67,h⟩):=by kernel_rfl
theorem tT:kcE (CL mx) [.tmp 4] ⟨cR v0 v1 v4 v5 v10 v12 v13 v14 v67,h⟩=some (.vh v4 h):=(bJ _ _ _).trans (by kernel_rfl)
theorem an9:dp (CL mx) 10=some ⟨abv mx,[0,1,4,5,10,12,13,14,67],69,[.tmp 4]⟩:=by kernel_rfl
end
theorem alv (mx:Int) (run:Run) (lp:Lp) (x0 x1:AV) (h:AH):cW (CL mx) run lp 10 [x0,x1] h=vhO (kc (CL mx) run lp (abv mx) ⟨cR x0 x1 .bot .bot .bot .bot .bot .bot .bot,h⟩ (kcE (CL mx) [.tmp 4]) (kcQ (CL mx) [.tmp 4])):=(bK (by kernel_rfl) (an9 mx) (by kernel_rfl)).trans (by kernel_rfl)
theorem zK (mx:Int) (p:List Nat):eF (CL mx) (kAt p (kOf (CL mx) 10)):=jF p (jT (CL mx) 10)
end
structure asp (h:AH) (v:AV) (i:Nat) (x:dm) (P dv:AV):Prop where
 ix: ∀κ:Ka,bT 4 v (.int 9223372036854775807 (i:Int)) h κ=κ P h
 lg: ∀κ:Ka,aQ 4 P h κ=κ (.agg [N64 x.num,N64 x.ty,U64 x.val,dv]) h
 l0: ∃M,(∀κ:Ka,ao 0 P h κ=κ M h)∧ ∀κ:Ka,ar M h κ=κ (N64 x.num) h
 l1: ∃M,(∀κ:Ka,ao 1 P h κ=κ M h)∧ ∀κ:Ka,ar M h κ=κ (N64 x.ty) h
 l2: ∃M,(∀κ:Ka,ao 2 P h κ=κ M h)∧ ∀κ:Ka,ar M h κ=κ (U64 x.val) h
 l3: ∃M,(∀κ:Ka,ao 3 P h κ=κ M h)∧ ∀κ:Ka,ar M h κ=κ dv h
 sl:dq h dv (aS x.dat)
structure FAt (h:AH) (v:AV) (L:List dm):Prop where
 len: ∀(h':AH) (κ:Ka),bH v h' κ=κ (N64 L.length) h'
 el: ∀(i:Nat) x,L[i]? =some x→ ∃P dv,asp h v i x P dv
def BOk (L:List dm):Prop:=∀x∈L,(∀c∈x.dat,c<256)∧x.val<18446744073709551616
section
variable {mx:Int} {h:AH} {Q:Option Rs→Prop} {κn:Kt} {κx:Ex→Kt} {a b:AV} {A B:List dm}
theorem FAt.of {S:Nat→Prop} {v:AV} {L:List dm} {rows:List (List AV)} (o:OwR h S 4 v rows) (hl:rows.length=L.length) (hr: ∀(i:Nat) r x,rows[i]? =some r→L[i]? =some x→ ∃dv,r=[N64 x.num,N64 x.ty,U64 x.val,dv]∧dq h dv (aS x.dat)):FAt h v L:=by
 refine ⟨fun h' κ=>by rw [o.bH h' κ,hl];rfl,fun i x hx=>?_⟩
 have hi:i<rows.length:=by rw [hl];exact (List.getElem?_eq_some_iff.1 hx).1
 obtain ⟨r,hr1⟩: ∃r,rows[i]? =some r:=⟨_,List.getElem?_eq_getElem hi⟩
 obtain ⟨dv,rfl,hs⟩:=hr i r x hr1 hx
 obtain ⟨b,_,el⟩:=o.el hr1
 exact ⟨.pto b (i*4),dv,⟨el.idx _ h,el.ldG,⟨_,fun κ=>eE _ _ _,el.ld1 0 _ rfl⟩,⟨_,fun κ=>eE _ _ _,el.ld1 1 _ rfl⟩,⟨_,fun κ=>eE _ _ _,el.ld1 2 _ rfl⟩,⟨_,fun κ=>eE _ _ _,el.ld1 3 _ rfl⟩,hs⟩⟩
theorem ai9 (x y:Nat):decide ((x:Int)≠(y:Int))=decide (x≠y):=by
 by_cases c:x=y
 ·subst c;simp
 ·rw [decide_eq_true c,decide_eq_true_iff];omega
theorem anS (a b:List Nat):eqS a b=decide (a=b):=by
 by_cases e:a=b
 ·subst e;rw [uS,decide_eq_true rfl]
 ·rw [decide_eq_false e,Bool.eq_false_iff]
  exact fun c=>e (xN _ _ c)
theorem adN (a b:List Nat):neS a b=decide (a≠b):=by
 unfold neS
 rw [anS]
 by_cases e:a=b<;>simp [e]
theorem dm.ext' {x y:dm} (h0:x.num=y.num) (h1:x.ty=y.ty) (h2:x.val=y.val) (h3:x.dat=y.dat):x=y:=by
 cases x;cases y;simp_all
theorem alU (ha:FAt h a A) (hb:FAt h b B) (hl:A.length=B.length) (bA:BOk A) (bB:BOk B) (hn:A.length≤100000): ∀(k i f:Nat) (v5 v10 v14 v67:AV),i+k=A.length→k+2≤f→(∀j:Nat,j<i→A[j]? =B[j]?)→
 (A=B→ ∀v5 v10 v14 v67,Q (κx (.exit 0) ⟨cR a b (.bool false) v5 v10 (N64 A.length) (N64 A.length) v14 v67,h⟩))→
 (A≠B→ ∀v5 v10 v12 v13 v14 v67,Q (κx .ret ⟨cR a b (.bool false) v5 v10 v12 v13 v14 v67,h⟩))→
 Q (kcR κn κx ((rl (CL mx) f).lp (acM mx) ⟨cR a b (.bool false) v5 v10 (N64 A.length) (N64 i) v14 v67,h⟩)):=by
 intro k
 induction k with
 |zero=>
  intro i f v5 v10 v14 v67 hi hf he k1 k2
  obtain ⟨f,rfl⟩:=fuel hf
  obtain rfl:i=A.length:=by omega
  have e:A=B:=List.ext_getElem? fun j=>by
   by_cases hj:j<A.length
   ·exact he j hj
   ·rw [List.getElem?_eq_none (by omega),List.getElem?_eq_none (by omega)]
  refine iX (zK mx _) ?_
  simp only [sy,List.length_append,Nat.reduceAdd,Nat.reduceMul,Nat.reduceSub,Nat.reduceLeDiff,Nat.reduceEqDiff,Nat.reduceLT,reduceIte,iQ,n64,Int.lt_irrefl]
  exact k1 e _ _ _ _
 |succ k ih=>
  intro i f v5 v10 v14 v67 hi hf he k1 k2
  obtain ⟨f,rfl⟩:=fuel hf
  obtain ⟨x,hx⟩: ∃x,A[i]? =some x:=⟨_,List.getElem?_eq_getElem (by omega)⟩
  obtain ⟨y,hy⟩: ∃y,B[i]? =some y:=⟨_,List.getElem?_eq_getElem (by omega)⟩
  obtain ⟨P,dv,cx⟩:=ha.el i x hx
  obtain ⟨R,dw,cy⟩:=hb.el i y hy
  obtain ⟨p0,q0,r0⟩:=cx.l0
  obtain ⟨p1,q1,r1⟩:=cx.l1
  obtain ⟨p2,q2,r2⟩:=cx.l2
  obtain ⟨p3,q3,r3⟩:=cx.l3
  obtain ⟨s0,t0,u0⟩:=cy.l0
  obtain ⟨s1,t1,u1⟩:=cy.l1
  obtain ⟨s2,t2,u2⟩:=cy.l2
  obtain ⟨s3,t3,u3⟩:=cy.l3
  have bx:=bA x (List.mem_of_getElem? hx)
  have by_:=bB y (List.mem_of_getElem? hy)
  have sx:=fun κ=>al0 cx.sl bx.1 κ
  have sy':=fun κ=>al0 cy.sl by_.1 κ
  have ix:=cx.ix
  have iy:=cy.ix
  simp only [n64] at r0 r1 u0 u1
  unfold U64 at r2 u2
  have g1:decide ((i:Int)<(A.length:Int))=true:=by rw [decide_eq_true_iff];omega
  have w1:aZ 9223372036854775807 ((i:Int)+1)=((i+1:Nat):Int):=by rw [bd (by omega) (by omega)];omega
  have ne:x≠y→A≠B:=fun c e=>c (by rw [e,hy] at hx;exact (Option.some.inj hx).symm)
  refine iX (zK mx _) ?_
  by_cases c0:x.num=y.num
  ·by_cases c1:x.ty=y.ty
   ·by_cases c2:x.val=y.val
    ·by_cases c3:x.dat=y.dat
     ·have e:=dm.ext' c0 c1 c2 c3
      simp only [sy,List.length_append,Nat.reduceAdd,Nat.reduceMul,Nat.reduceSub,Nat.reduceLeDiff,Nat.reduceEqDiff,Nat.reduceLT,reduceIte,iQ,kE,kG,kB,kM,n64,g1,ix,iy,q0,q1,q2,q3,r0,r1,r2,r3,t0,t1,t2,t3,u0,u1,u2,u3,ai9,sx,sy',adN,decide_eq_false (show ¬x.num≠y.num from fun c=>c c0),decide_eq_false (show ¬x.ty≠y.ty from fun c=>c c1),decide_eq_false (show ¬x.val≠y.val from fun c=>c c2),decide_eq_false (show ¬x.dat≠y.dat from fun c=>c c3),w1]
      refine ih (i+1) (f+(k+2)) _ _ _ _ (by omega) (by omega) (fun j hj=>?_) k1 k2
      rcases Nat.lt_or_ge j i with hji|hji
      ·exact he j hji
      ·obtain rfl:j=i:=by omega
       rw [hx,hy,e]
     ·simp only [sy,List.length_append,Nat.reduceAdd,Nat.reduceMul,Nat.reduceSub,Nat.reduceLeDiff,Nat.reduceEqDiff,Nat.reduceLT,reduceIte,iQ,kE,kG,kB,kM,n64,g1,ix,iy,q0,q1,q2,q3,r0,r1,r2,r3,t0,t1,t2,t3,u0,u1,u2,u3,ai9,sx,sy',adN,decide_eq_false (show ¬x.num≠y.num from fun c=>c c0),decide_eq_false (show ¬x.ty≠y.ty from fun c=>c c1),decide_eq_false (show ¬x.val≠y.val from fun c=>c c2),decide_eq_true (show x.dat≠y.dat from c3)]
      exact k2 (ne fun c=>c3 (by rw [c])) _ _ _ _ _ _
    ·simp only [sy,List.length_append,Nat.reduceAdd,Nat.reduceMul,Nat.reduceSub,Nat.reduceLeDiff,Nat.reduceEqDiff,Nat.reduceLT,reduceIte,iQ,kE,kG,kB,kM,n64,g1,ix,iy,q0,q1,q2,r0,r1,r2,t0,t1,t2,u0,u1,u2,ai9,decide_eq_false (show ¬x.num≠y.num from fun c=>c c0),decide_eq_false (show ¬x.ty≠y.ty from fun c=>c c1),decide_eq_true (show x.val≠y.val from c2)]
     exact k2 (ne fun c=>c2 (by rw [c])) _ _ _ _ _ _
   ·simp only [sy,List.length_append,Nat.reduceAdd,Nat.reduceMul,Nat.reduceSub,Nat.reduceLeDiff,Nat.reduceEqDiff,Nat.reduceLT,reduceIte,iQ,kE,kG,kB,kM,n64,g1,ix,iy,q0,q1,r0,r1,t0,t1,u0,u1,ai9,decide_eq_false (show ¬x.num≠y.num from fun c=>c c0),decide_eq_true (show x.ty≠y.ty from c1)]
    exact k2 (ne fun c=>c1 (by rw [c])) _ _ _ _ _ _
  ·simp only [sy,List.length_append,Nat.reduceAdd,Nat.reduceMul,Nat.reduceSub,Nat.reduceLeDiff,Nat.reduceEqDiff,Nat.reduceLT,reduceIte,iQ,kE,kG,kB,kM,n64,g1,ix,iy,q0,r0,t0,u0,ai9,decide_eq_true (show x.num≠y.num from c0)]
   exact k2 (ne fun c=>c0 (by rw [c])) _ _ _ _ _ _
theorem rO (ha:FAt h a A) (hb:FAt h b B) (bA:BOk A) (bB:BOk B) (hn:A.length≤10000) (f:Nat) (hf:10010≤f):aG (fun r h'=>(∃q:Bool,r= .bool q∧(q=true↔A=B))∧h'=h) ((rl (CL mx) f).run 10 [a,b] h):=by
 obtain ⟨f,rfl⟩: ∃g,f=g+1:=⟨f-1,by omega⟩
 refine aG.runs (n:=f) (alv mx _ _ _ _ _) ?_
 have la:=ha.len
 have lb:=hb.len
 by_cases hl:A.length=B.length
 ·have g1:decide ((A.length:Int)≠(B.length:Int))=false:=by rw [decide_eq_false_iff_not];omega
  simp only [sy,List.length_append,Nat.reduceAdd,Nat.reduceMul,Nat.reduceSub,Nat.reduceLeDiff,Nat.reduceEqDiff,Nat.reduceLT,reduceIte,xD,af3,la,lb,n64,g1]
  refine alU ha hb hl bA bB (by omega) A.length 0 f _ _ _ _ (by omega) (by omega) (fun j hj=>by omega) (fun e v5 v10 v14 v67=>?_) (fun e v5 v10 v12 v13 v14 v67=>?_)
  ·simp only [adR,decide_true,bqT,agm,lV,tT]
   exact Ends.mk ⟨⟨true,rfl,by simp [e]⟩,rfl⟩
  ·simp only [apy,lV,tT]
   exact Ends.mk ⟨⟨false,rfl,by simp [e]⟩,rfl⟩
 ·have g1:decide ((A.length:Int)≠(B.length:Int))=true:=by rw [decide_eq_true_iff];omega
  simp only [sy,List.length_append,Nat.reduceAdd,Nat.reduceMul,Nat.reduceSub,Nat.reduceLeDiff,Nat.reduceEqDiff,Nat.reduceLT,reduceIte,xD,la,lb,n64,g1,tT]
  exact Ends.mk ⟨⟨false,rfl,by simp;intro c;exact hl (by rw [c])⟩,rfl⟩
end
end Go.Proofs.YteapfopaiocpeaaGreatDoor
