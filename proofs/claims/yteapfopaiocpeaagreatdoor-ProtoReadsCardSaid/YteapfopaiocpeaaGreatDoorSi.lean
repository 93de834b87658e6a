/- A reader of package scan: a switch. The function's code is printed by a program. -/
import Derived.Test.YteapfopaiocpeaaGreatDoorSh
namespace Go.Proofs.YteapfopaiocpeaaGreatDoor
set_option linter.unusedSimpArgs false
set_option linter.unusedVariables false
set_option linter.unnecessarySimpa false
set_option linter.defProp false
noncomputable section
def bZ (v0 v1 v3 v4 v5 v7 v18 v24 v25 v26 v27 v33 v39:AV):Tm:=(.nd 18 (.nd 4 (.nd 1 (.lf 0 v0) (.nd 3 (.lf 1 v1) (.lf 3 v3))) (.nd 5 (.lf 4 v4) (.nd 7 (.lf 5 v5) (.lf 7 v7)))) (.nd 26 (.nd 24 (.lf 18 v18) (.nd 25 (.lf 24 v24) (.lf 25 v25))) (.nd 33 (.nd 27 (.lf 26 v26) (.lf 27 v27)) (.nd 39 (.lf 33 v33) (.lf 39 v39)))))
def abF (mx:Int):K:=kAt [] (kOf (CL mx) 230)
def aiK (mx:Int):K:=kAt [1,0] (kOf (CL mx) 230)
def ahH (mx:Int):K:=kAt [1,1] (kOf (CL mx) 230)
def alJ (mx:Int):K:=kAt [1,1,0] (kOf (CL mx) 230)
def ack (mx:Int):K:=kAt [1,1,1] (kOf (CL mx) 230)
def alk (mx:Int):K:=kAt [1,1,1,0] (kOf (CL mx) 230)
def ajh (mx:Int):K:=kAt [1,1,1,1] (kOf (CL mx) 230)
def acJ (mx:Int):K:=kAt [1,1,1,0,1,0,0] (kOf (CL mx) 230)
def akV (mx:Int):K:=kAt [1,1,1,1,0] (kOf (CL mx) 230)
def al3 (mx:Int):K:=kAt [1,1,1,1,1] (kOf (CL mx) 230)
section
set_option maxRecDepth 100000
variable (mx:Int) (run:Run) (lp:Lp) (κn:Kt) (κx:Ex→Kt) (h:AH) (v0 v1 v3 v4 v5 v7 v18 v24 v25 v26 v27 v33 v39:AV)
theorem agL:kc (CL mx) run lp (abF mx) ⟨bZ v0 v1 v3 v4 v5 v7 v18 v24 v25 v26 v27 v33 v39,h⟩ κn κx=gN 309 v1 h (fun a0 h=>kc (CL mx) run lp (aiK mx) ⟨bZ v0 v1 a0 (.int 9223372036854775807 0) v5 v7 v18 v24 v25 v26 v27 v33 v39,h⟩ (fun s=>kc (CL mx) run lp (ahH mx) s κn κx) κx):=by kernel_rfl
theorem vn:kc (CL mx) run lp (aiK mx) ⟨bZ v0 v1 v3 v4 v5 v7 v18 v24 v25 v26 v27 v33 v39,h⟩ κn κx=az v0 h (fun a0 h=>aj 14 a0 h (fun a1 h=>ao a1 h (fun a2 h=>aj 1 v3 h (fun a3 h=>ao a3 h (fun a4 h=>bL 1 a2 a4 h (fun a5 h=>ao a5 h (fun a6 h=>κn ⟨bZ v0 v1 v3 v4 a6 v7 v18 v24 v25 v26 v27 v33 v39,h⟩))))))):=(bV (C:=CL mx) (ops:=opsOf (cAt [1,0] (aD (CL mx) 230))) (ps:=[0,1,3,4,5,7,18,24,25,26,27,33,39]) (by kernel_rfl) (by kernel_rfl) _ _ _).trans (by kernel_rfl)
theorem wM:kc (CL mx) run lp (ahH mx) ⟨bZ v0 v1 v3 v4 v5 v7 v18 v24 v25 v26 v27 v33 v39,h⟩ κn κx=kc (CL mx) run lp (alJ mx) ⟨bZ v0 v1 v3 v4 v5 v7 v18 v24 v25 v26 v27 v33 v39,h⟩ (fun s=>kc (CL mx) run lp (ack mx) s κn κx) κx:=by kernel_rfl
theorem vH:kc (CL mx) run lp (alJ mx) ⟨bZ v0 v1 v3 v4 v5 v7 v18 v24 v25 v26 v27 v33 v39,h⟩ κn κx=aj 7 v3 h (fun a0 h=>ao a0 h (fun a1 h=>cmp ine a1 (.int 18446744073709551615 0) h (fun a2 h=>bn a2 (aj 7 v3 h (fun a3 h=>ao a3 h (fun a4 h=>ac4 v5 a4 h (fun a5 h=>κn ⟨bZ v0 v1 v3 v4 a5 v7 a2 v24 v25 v26 v27 v33 v39,h⟩)))) (κn ⟨bZ v0 v1 v3 v4 v5 v7 a2 v24 v25 v26 v27 v33 v39,h⟩)))):=by kernel_rfl
theorem af4:kc (CL mx) run lp (ack mx) ⟨bZ v0 v1 v3 v4 v5 v7 v18 v24 v25 v26 v27 v33 v39,h⟩ κn κx=kc (CL mx) run lp (alk mx) ⟨bZ v0 v1 v3 v4 v5 v7 v18 v24 v25 v26 v27 v33 v39,h⟩ (fun s=>kc (CL mx) run lp (ajh mx) s κn κx) κx:=by kernel_rfl
theorem afr:kc (CL mx) run lp (alk mx) ⟨bZ v0 v1 v3 v4 v5 v7 v18 v24 v25 v26 v27 v33 v39,h⟩ κn κx=aj 8 v3 h (fun a0 h=>ao a0 h (fun a1 h=>bF a1 h (fun a2 h=>kcR κn (kcO 0 κn κx) (lp (acJ mx) ⟨bZ v0 v1 v3 v4 v5 v7 v18 a1 a2 (.int 9223372036854775807 0) v27 v33 v39,h⟩)))):=by kernel_rfl
theorem vr:kc (CL mx) run lp (ajh mx) ⟨bZ v0 v1 v3 v4 v5 v7 v18 v24 v25 v26 v27 v33 v39,h⟩ κn κx=kc (CL mx) run lp (akV mx) ⟨bZ v0 v1 v3 v4 v5 v7 v18 v24 v25 v26 v27 v33 v39,h⟩ (fun s=>kc (CL mx) run lp (al3 mx) s κn κx) κx:=by kernel_rfl
theorem qf:kc (CL mx) run lp (acJ mx) ⟨bZ v0 v1 v3 v4 v5 v7 v18 v24 v25 v26 v27 v33 v39,h⟩ κn κx=cmp ilt v26 v25 h (fun a0 h=>bn a0 (bL 2 v24 v26 h (fun a1 h=>aO 2 a1 h (fun a2 h=>eH h (.cells [.int 18446744073709551615 0,.int 9223372036854775807 0] 431) (fun a3 h=>aL 2 a3 a2 h (fun a4 h=>aj 0 a3 h (fun a5 h=>ao a5 h (fun a6 h=>cmp bP a6 v5 h (fun a7 h=>bn a7 (aj 1 a3 h (fun a8 h=>ao a8 h (fun a9 h=>κx .ret ⟨bZ v0 v1 v3 a9 v5 a3 v18 v24 v25 v26 a0 a7 v39,h⟩))) (arith dX v26 (.int 9223372036854775807 1) h (fun a8 h=>κn ⟨bZ v0 v1 v3 v4 v5 a3 v18 v24 v25 a8 a0 a7 v39,h⟩)))))))))) (κx (.exit 0) ⟨bZ v0 v1 v3 v4 v5 v7 v18 v24 v25 v26 a0 v33 v39,h⟩)):=by kernel_rfl
theorem vm:kc (CL mx) run lp (akV mx) ⟨bZ v0 v1 v3 v4 v5 v7 v18 v24 v25 v26 v27 v33 v39,h⟩ κn κx=aj 2 v3 h (fun a0 h=>ao a0 h (fun a1 h=>cmp ilt a1 (.int 9223372036854775807 0) h (fun a2 h=>bn a2 (az v0 h (fun a3 h=>aj 10 a3 h (fun a4 h=>ao a4 h (fun a5 h=>aJ (fun a6 h=>κn ⟨bZ v0 v1 v3 v4 v5 v7 v18 v24 v25 v26 v27 v33 a2,h⟩) (aE (CL mx) run 114 [v0,(.int 9223372036854775807 213),a5] h))))) (κn ⟨bZ v0 v1 v3 v4 v5 v7 v18 v24 v25 v26 v27 v33 a2,h⟩)))):=by kernel_rfl
theorem wS:kc (CL mx) run lp (al3 mx) ⟨bZ v0 v1 v3 v4 v5 v7 v18 v24 v25 v26 v27 v33 v39,h⟩ κn κx=aj 2 v3 h (fun a0 h=>ao a0 h (fun a1 h=>iQ true a1 (.int 9223372036854775807 0) h (fun a2 h=>κx .ret ⟨bZ v0 v1 v3 a2 v5 v7 v18 v24 v25 v26 v27 v33 v39,h⟩))):=by kernel_rfl
theorem tX:kcE (CL mx) [.tmp 4] ⟨bZ v0 v1 v3 v4 v5 v7 v18 v24 v25 v26 v27 v33 v39,h⟩=some (.vh v4 h):=(bH _ _ _).trans (by kernel_rfl)
theorem am9:cZ (CL mx) 230=some ⟨abF mx,[0,1,3,4,5,7,18,24,25,26,27,33,39],49,[.tmp 4]⟩:=by kernel_rfl
end
theorem ahM (mx:Int) (run:Run) (lp:Lp) (x0 x1:AV) (h:AH):cP (CL mx) run lp 230 [x0,x1] h=vhO (kc (CL mx) run lp (abF mx) ⟨bZ x0 x1 .bot .bot .bot .bot .bot .bot .bot .bot .bot .bot .bot,h⟩ (kcE (CL mx) [.tmp 4]) (kcQ (CL mx) [.tmp 4])):=(bI (by kernel_rfl) (am9 mx) (by kernel_rfl)).trans (by kernel_rfl)
theorem zC (mx:Int) (p:List Nat):dY (CL mx) (kAt p (kOf (CL mx) 230)):=iq p (iA (CL mx) 230)
end
section
variable {mx:Int} {m:Nat} {K:RC} {kd:Nat→Nat} {h:AH} {p:Nat} {c:PC} {s:PR}
def gW (w:Nat×Nat):List AV:=[U64 w.1,N64 w.2]
def RdR (h:AH) (S:Nat→Prop) (z:Nat) (v:AV) (rows:List (List AV)):Prop:=OwR h S z v rows∨((∀r∈rows,r.length=z)∧v= .slp rows.flatten rows.length)
theorem RdR.mono {h h':AH} {S S':Nat→Prop} {z:Nat} {v:AV} {rows:List (List AV)} (r:RdR h S z v rows) (m: ∀b,b<h.length→S b→S' b∧aa h' b=aa h b):RdR h' S' z v rows:=r.imp (fun o=>o.mono m) id
theorem RdR.bF {h:AH} {S:Nat→Prop} {z:Nat} {v:AV} {rows:List (List AV)} (r:RdR h S z v rows) (h':AH) (κ:Ka):bF v h' κ=κ (.int 9223372036854775807 (rows.length:Int)) h':=by
 rcases r with r|⟨_,rfl⟩
 ·exact r.bF h' κ
 ·rfl
theorem RdR.el {h:AH} {S:Nat→Prop} {z:Nat} {v:AV} {rows:List (List AV)} (r:RdR h S z v rows) {i:Nat} {q:List AV} (hq:rows[i]? =some q): ∃P,(∀(k:Nat) (h':AH) (κ:Ka),bL z v (.int k (i:Int)) h' κ=κ P h')∧(∀κ:Ka,aO z P h κ=κ (.agg q) h)∧
 ∀(j:Nat) (c:AV),q[j]? =some c→ ∃M,(∀(h':AH) (κ:Ka),aj j P h' κ=κ M h')∧ ∀κ:Ka,ao M h κ=κ c h:=by
 rcases r with r|⟨hr,rfl⟩
 ·obtain ⟨b,_,el⟩:=r.el hq
  exact ⟨.pto b (i*z),el.idx,el.ldG,fun j c hj=>⟨.pto b (i*z+j),fun h' κ=>by rw [kU],el.ld1 j c hj⟩⟩
 ·have hi:i<rows.length:=(List.getElem?_eq_some_iff.1 hq).1
  have hql:q.length=z:=hr q (List.mem_of_getElem? hq)
  obtain ⟨A,B,rfl,hA⟩:=j5 hq
  have hAl:A.flatten.length=i*z:=by rw [mP fun r h=>hr r (by simp [h]),hA]
  have hfl:(A++q::B).flatten.length=(A++q::B).length*z:=mP hr
  refine ⟨.ptp (A++q::B).flatten (i*z),fun k h' κ=>?_,fun κ=>?_,fun j c hj=>⟨.ptp (A++q::B).flatten (i*z+j),fun h' κ=>by rw [ad1],fun κ=>?_⟩⟩
  ·rw [xQ,decide_eq_true hi];rfl
  ·rw [xO]
   have e0:(A++q::B).flatten=A.flatten++(q++B.flatten):=by simp
   rw [e0,←hAl,List.drop_left,←hql,List.take_left,decide_eq_true (show A.flatten.length+q.length≤(A.flatten++(q++B.flatten)).length by simp)];rfl
  ·have hjz:j<q.length:=(List.getElem?_eq_some_iff.1 hj).1
   have e0:(A++q::B).flatten=A.flatten++(q++B.flatten):=by simp
   have:(A++q::B).flatten[i*z+j]? =some c:=by
    rw [e0,←hAl,List.getElem?_append_right (by omega),Nat.add_sub_cancel_left,List.getElem?_append_left hjz,hj]
   rw [xV,this];rfl
theorem amC {Q:Option Rs→Prop} {κn:Kt} {κx:Ex→Kt} {S:Nat→Prop} {wv v0 v1 v3 v4 v18 v39:AV} {ways:List (Nat×Nat)} (O:RdR h S 2 wv (ways.map gW)) (hl:ways.length≤1000000) {n:Nat}:
 ∀(R A:List (Nat×Nat)) (f:Nat) (h1:AH) (v7 v27 v33:AV),ways=A++R→R.length+2≤f→h.length≤h1.length→(∀i,i<h.length→aa h1 i=aa h i)→
  (∀w h2 v7 v26 v27 v33,R.find? (fun w=>w.1=n)=some w→h.length≤h2.length→(∀i,i<h.length→aa h2 i=aa h i)→Q (κx .ret ⟨bZ v0 v1 v3 (.int 9223372036854775807 (w.2:Int)) (.int 18446744073709551615 (n:Int)) v7 v18 wv (.int 9223372036854775807 (ways.length:Int)) v26 v27 v33 v39,h2⟩))→
  (∀h2 v7 v26 v27 v33,R.find? (fun w=>w.1=n)=none→h.length≤h2.length→(∀i,i<h.length→aa h2 i=aa h i)→Q (κx (.exit 0) ⟨bZ v0 v1 v3 v4 (.int 18446744073709551615 (n:Int)) v7 v18 wv (.int 9223372036854775807 (ways.length:Int)) v26 v27 v33 v39,h2⟩))→
  Q (kcR κn κx ((rl (CL mx) f).lp (acJ mx) ⟨bZ v0 v1 v3 v4 (.int 18446744073709551615 (n:Int)) v7 v18 wv (.int 9223372036854775807 (ways.length:Int)) (.int 9223372036854775807 (A.length:Int)) v27 v33 v39,h1⟩)):=by
 intro R
 induction R with
 |nil=>
  intro A f h1 v7 v27 v33 hP hf l1 f1 k1 k2
  obtain ⟨f,rfl⟩:=fuel hf
  have hA:A.length=ways.length:=by rw [hP];simp
  refine fm (zC mx _) ?_
  have g:decide ((A.length:Int)<(ways.length:Int))=false:=by rw [decide_eq_false_iff_not];omega
  simp only [sy,List.length_append,Nat.reduceAdd,Nat.reduceMul,Nat.reduceSub,Nat.reduceLeDiff,Nat.reduceEqDiff,Nat.reduceLT,reduceIte,qf,g]
  exact k2 _ _ _ _ _ rfl l1 f1
 |cons w R ih=>
  intro A f h1 v7 v27 v33 hP hf l1 f1 k1 k2
  obtain ⟨f,rfl⟩:=fuel hf
  have hlen:ways.length=A.length+(R.length+1):=by rw [hP];simp
  have g:decide ((A.length:Int)<(ways.length:Int))=true:=by rw [decide_eq_true_iff];omega
  have ew:(ways.map gW)[A.length]? =some (gW w):=by rw [hP];simp
  have O1:RdR h1 S 2 wv (ways.map gW):=O.mono fun b hb hs=>⟨hs,f1 b hb⟩
  obtain ⟨P,ix,lG,_⟩:=O1.el ew
  have st: ∀κ:Ka,aL 2 (.pto h1.length 0) (.agg (gW w)) (h1++[some (.cells [.int 18446744073709551615 0,.int 9223372036854775807 0] (430+1))]) κ=κ (.tup []) (h1++[some (.cells (gW w) (430+1))]):=fun κ=>cT rfl rfl rfl
  have hz:=aH h1 (some (Blk.cells (gW w) (430+1)))
  have w1:aM 9223372036854775807 ((A.length:Int)+1)=((A.length+1:Nat):Int):=by rw [aT (by omega) (by omega)];simp
  have l2:h.length≤(h1++[some (Blk.cells (gW w) (430+1))]).length:=by rw [List.length_append];omega
  have f2: ∀i,i<h.length→aa (h1++[some (Blk.cells (gW w) (430+1))]) i=aa h i:=fun i hi=>by rw [ak (by omega)];exact f1 i hi
  have fe:(w::R).find? (fun w=>decide (w.1=n))=if w.1=n then some w else R.find? (fun w=>decide (w.1=n)):=by
   rw [List.find?_cons]
   by_cases hc:w.1=n
   ·rw [decide_eq_true hc,if_pos hc]
   ·rw [decide_eq_false hc,if_neg hc]
  rw [fe] at k1 k2
  refine fm (zC mx _) ?_
  by_cases hc:w.1=n
  ·rw [if_pos hc] at k1
   have g2:decide ((w.1:Int)=(n:Int))=true:=by rw [decide_eq_true_iff];omega
   simp only [sy,List.length_append,Nat.reduceAdd,Nat.reduceMul,Nat.reduceSub,Nat.reduceLeDiff,Nat.reduceEqDiff,Nat.reduceLT,reduceIte,qf,g,ix,lG,st,hz,show (gW w)[0]? =some (.int 18446744073709551615 (w.1:Int)) from rfl,show (gW w)[1]? =some (.int 9223372036854775807 (w.2:Int)) from rfl,g2]
   exact k1 w _ _ _ _ _ rfl l2 f2
  ·rw [if_neg hc] at k1 k2
   have g2:decide ((w.1:Int)=(n:Int))=false:=by rw [decide_eq_false_iff_not];omega
   simp only [sy,List.length_append,Nat.reduceAdd,Nat.reduceMul,Nat.reduceSub,Nat.reduceLeDiff,Nat.reduceEqDiff,Nat.reduceLT,reduceIte,qf,g,ix,lG,st,hz,show (gW w)[0]? =some (.int 18446744073709551615 (w.1:Int)) from rfl,g2,w1]
   have:=ih (A++[w]) (f+R.length+2) _ (.pto h1.length 0) (.bool true) (.bool false) (by rw [hP];simp) (by omega) l2 f2 k1 k2
   rw [show (A++[w]).length=A.length+1 by simp] at this
   exact this
def PR.yI (q:PS) (s:PR) (n:Nat):Nat×PR:=match q.ways.find? (fun w=>w.1=n) with
 |some w=>(w.2,s)
 |none=>if q.b<0 then (0,s.bf 213 s.at_) else (q.b.toNat,s)
theorem aeZ (R:RS m K kd h p c s) (W:Wf c s) {q:PS} {wv:AV} {bs:List AV} (hbs:(stC q wv bs).length=265) (hpl:aV (stC q wv bs)=true) (O:RdR h (fun b=>b<m) 2 wv (q.ways.map gW)) (hl:q.ways.length≤1000000) (ha:0≤q.a∧q.a<(s.slots.length:Int)) (hs: ∀x∈s.slots,x<18446744073709551616) (f:Nat):
 aC (fun x h'=>x= .int 9223372036854775807 ((s.pick q).1:Int)∧Nx h.length m K kd h p c (s.pick q).2 h') ((rl (CL mx) (f+q.ways.length+10)).run 230 [.pto p 0,.agg (stC q wv bs)] h):=by
 refine aC.runs (n:=f+q.ways.length+9) (ahM mx _ _ _ _ _) ?_
 have hz:=aH h (some (Blk.cells (stC q wv bs) (308+1)))
 have R0:=R.grow (h':=h++[some (Blk.cells (stC q wv bs) (308+1))]) (by simp) (fun i hi=>ak hi _)
 have bx: ∀κ:Ka,gN (308+1) (.agg (stC q wv bs)) h κ=κ (.pto h.length 0) (h++[some (Blk.cells (stC q wv bs) (308+1))]):=fun κ=>by rw [dP];rfl
 have fz: ∀i,i<h.length→aa (h++[some (Blk.cells (stC q wv bs) (308+1))]) i=aa h i:=fun i hi=>ak hi _
 have hl0:(h++[some (Blk.cells (stC q wv bs) (308+1))]).length=h.length+1:=by simp
 have k0:cK kd h.length 0 h.length=0:=fJ (Nat.le_refl _)
 have O0:RdR (h++[some (Blk.cells (stC q wv bs) (308+1))]) (fun b=>b<m) 2 wv (q.ways.map gW):=O.mono fun b hb hs=>⟨hs,fz b hb⟩
 refine wEq (agL ..) ?_
 refine wEq (bx _) ?_
 generalize h++[some (Blk.cells (stC q wv bs) (308+1))]=h0 at*
 obtain ⟨j,hj⟩:=Int.eq_ofNat_of_zero_le ha.1
 have hjl:j<s.slots.length:=by omega
 obtain ⟨stp,y,sl,st,ct,cl,QQ,hp,o2,o3,ok,o4,o5⟩:=R0.ex
 have hp':=hp
 unfold rdL at hp'
 obtain ⟨P,b,X,ix,ld,_⟩:=oW o2 hjl 0
 have hx:s.slots.getD j 0<18446744073709551616:=by
  have:s.slots.getD j 0=s.slots[j]:=by simp [List.getD_eq_getElem?_getD,hjl]
  rw [this];exact hs _ (List.getElem_mem _)
 have pk:s.pick q=s.yI q (if q.add=0 then s.slots.getD j 0 else s.slots.getD j 0%q.add):=by
  unfold PR.pick PR.yI
  rw [show q.a.toNat=j by omega]
  rfl
 generalize s.slots.getD j 0=v at*
 rw [pk]
 clear pk
 have key: ∀(n:Nat) (v4 v7 v18 v24 v25 v26 v27 v33 v39:AV),Ends (fun x h'=>x= .int 9223372036854775807 ((s.yI q n).1:Int)∧Nx h.length m K kd h p c (s.yI q n).2 h') (kc (CL mx) (rl (CL mx) (f+q.ways.length+9)).run (rl (CL mx) (f+q.ways.length+9)).lp (ack mx) ⟨bZ (.pto p 0) (.agg (stC q wv bs)) (.pto h.length 0) v4 (.int 18446744073709551615 (n:Int)) v7 v18 v24 v25 v26 v27 v33 v39,h0⟩ (kcE (CL mx) [.tmp 4]) (kcQ (CL mx) [.tmp 4])):=by
  intro n v4 v7 v18 v24 v25 v26 v27 v33 v39
  have len:=fun (h':AH) (κ:Ka)=>O0.bF h' κ
  rw [List.length_map] at len
  simp only [sy,List.length_append,Nat.reduceAdd,Nat.reduceMul,Nat.reduceSub,Nat.reduceLeDiff,Nat.reduceEqDiff,Nat.reduceLT,reduceIte,af4,afr,hz,eA,len]
  unfold PR.yI
  refine amC O0 hl q.ways [] (f+q.ways.length+9) h0 _ _ _ rfl (by omega) (Nat.le_refl _) (fun i _=>rfl) (fun w h2 v7 v26 v27 v33 e l2 f2=>?_) (fun h2 v7 v26 v27 v33 e l2 f2=>?_)
  ·rw [e]
   simp only [sy,List.length_append,Nat.reduceAdd,Nat.reduceMul,Nat.reduceSub,Nat.reduceLeDiff,Nat.reduceEqDiff,Nat.reduceLT,reduceIte,tX]
   exact Ends.mk ⟨rfl,cK kd h.length 0,R.grow (by omega) (fun i hi=>by rw [f2 i (by omega)];exact fz i hi),by omega,fun i hi h0'=>⟨by rw [f2 i (by omega)];exact fz i hi,by rw [bQ hi];exact h0'⟩⟩
  ·rw [e]
   have R2:=R.grow (h':=h2) (by omega) (fun i hi=>by rw [f2 i (by omega)];exact fz i hi)
   have hz2:=(f2 h.length (by omega)).trans hz
   have fx2: ∀i,i<h.length→kd i=0→aa h2 i=aa h i∧cK kd h.length 0 i=0:=fun i hi h0'=>⟨by rw [f2 i (by omega)];exact fz i hi,by rw [bQ hi];exact h0'⟩
   obtain ⟨stp2,y2,sl2,st2,ct2,cl2,QQ2,hp2,_⟩:=R2.ex
   unfold rdL at hp2
   by_cases hb:q.b<0
   ·have g:decide (q.b<0)=true:=decide_eq_true hb
    have mxx:max q.b 0=((0:Nat):Int):=by omega
    rw [if_pos hb]
    simp only [sy,List.length_append,Nat.reduceAdd,Nat.reduceMul,Nat.reduceSub,Nat.reduceLeDiff,Nat.reduceEqDiff,Nat.reduceLT,reduceIte,vr,vm,hz2,eA,g,hp2,n64]
    refine bG (eI R2 213 s.at_ (f+q.ways.length+8)).call ?_
    rintro x h3 ⟨rfl,R3,n3,f3⟩
    have hz3:aa h3 h.length=some (.cells (stC q wv bs) (308+1)):=by rw [f3 _ (by rw [k0];decide)];exact hz2
    simp only [sy,List.length_append,Nat.reduceAdd,Nat.reduceMul,Nat.reduceSub,Nat.reduceLeDiff,Nat.reduceEqDiff,Nat.reduceLT,reduceIte,wS,hz3,eA,mxx,tX]
    exact Ends.mk ⟨rfl,cK kd h.length 0,R3,by omega,fun i hi h0'=>⟨by rw [f3 i (by rw [(fx2 i hi h0').2];decide)];exact (fx2 i hi h0').1,(fx2 i hi h0').2⟩⟩
   ·have g:decide (q.b<0)=false:=decide_eq_false hb
    have mxx:max q.b 0=((q.b.toNat:Nat):Int):=by omega
    rw [if_neg hb]
    simp only [sy,List.length_append,Nat.reduceAdd,Nat.reduceMul,Nat.reduceSub,Nat.reduceLeDiff,Nat.reduceEqDiff,Nat.reduceLT,reduceIte,vr,vm,wS,hz2,eA,g,mxx,tX]
    exact Ends.mk ⟨rfl,cK kd h.length 0,R2,by omega,fx2⟩
 by_cases ha0:q.add=0
 ·rw [if_pos ha0]
  have g:decide ((q.add:Int)≠0)=false:=by rw [decide_eq_false_iff_not];omega
  simp only [sy,List.length_append,Nat.reduceAdd,Nat.reduceMul,Nat.reduceSub,Nat.reduceLeDiff,Nat.reduceEqDiff,Nat.reduceLT,reduceIte,vn,wM,vH,hz,eA,hj,hp',ix,ld,g]
  exact key _ _ _ _ _ _ _ _ _ _
 ·rw [if_neg ha0]
  have g:decide ((q.add:Int)≠0)=true:=by rw [decide_eq_true_iff];omega
  have re:abS (v:Int) (q.add:Int)=((v%q.add:Nat):Int):=rfl
  simp only [sy,List.length_append,Nat.reduceAdd,Nat.reduceMul,Nat.reduceSub,Nat.reduceLeDiff,Nat.reduceEqDiff,Nat.reduceLT,reduceIte,vn,wM,vH,hz,eA,hj,hp',ix,ld,g,re]
  exact key _ _ _ _ _ _ _ _ _ _
end
end Go.Proofs.YteapfopaiocpeaaGreatDoor
