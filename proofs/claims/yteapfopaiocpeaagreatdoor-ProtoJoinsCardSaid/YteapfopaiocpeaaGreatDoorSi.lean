/- A reader of package scan: a switch. The function's code is printed by a program. -/
import Derived.Test.YteapfopaiocpeaaGreatDoorSh
namespace Go.Proofs.YteapfopaiocpeaaGreatDoor
set_option linter.unusedSimpArgs false
set_option linter.unusedVariables false
set_option linter.unnecessarySimpa false
set_option linter.defProp false
noncomputable section
def cg (v0 v1 v3 v4 v5 v7 v18 v24 v25 v26 v27 v33 v39:AV):Tm:=(.nd 18 (.nd 4 (.nd 1 (.lf 0 v0) (.nd 3 (.lf 1 v1) (.lf 3 v3))) (.nd 5 (.lf 4 v4) (.nd 7 (.lf 5 v5) (.lf 7 v7)))) (.nd 26 (.nd 24 (.lf 18 v18) (.nd 25 (.lf 24 v24) (.lf 25 v25))) (.nd 33 (.nd 27 (.lf 26 v26) (.lf 27 v27)) (.nd 39 (.lf 33 v33) (.lf 39 v39)))))
def acr (mx:Int):K:=kAt [] (kOf (CL mx) 230)
def alY (mx:Int):K:=kAt [1,0] (kOf (CL mx) 230)
def aki (mx:Int):K:=kAt [1,1] (kOf (CL mx) 230)
def aib (mx:Int):K:=kAt [1,1,0] (kOf (CL mx) 230)
def abD (mx:Int):K:=kAt [1,1,1] (kOf (CL mx) 230)
def aik (mx:Int):K:=kAt [1,1,1,0] (kOf (CL mx) 230)
def aly (mx:Int):K:=kAt [1,1,1,1] (kOf (CL mx) 230)
def adn (mx:Int):K:=kAt [1,1,1,0,1,0,0] (kOf (CL mx) 230)
def alm (mx:Int):K:=kAt [1,1,1,1,0] (kOf (CL mx) 230)
def akc (mx:Int):K:=kAt [1,1,1,1,1] (kOf (CL mx) 230)
section
set_option maxRecDepth 100000
variable (mx:Int) (run:Run) (lp:Lp) (κn:Kt) (κx:Ex→Kt) (h:AH) (v0 v1 v3 v4 v5 v7 v18 v24 v25 v26 v27 v33 v39:AV)
theorem agZ:kc (CL mx) run lp (acr mx) ⟨cg v0 v1 v3 v4 v5 v7 v18 v24 v25 v26 v27 v33 v39,h⟩ κn κx=gZ 309 v1 h (fun a0 h=>kc (CL mx) run lp (alY mx) ⟨cg v0 v1 a0 (.int 9223372036854775807 0) v5 v7 v18 v24 v25 v26 v27 v33 v39,h⟩ (fun s=>kc (CL mx) run lp (aki mx) s κn κx) κx):=by kernel_rfl
theorem xw:kc (CL mx) run lp (alY mx) ⟨cg v0 v1 v3 v4 v5 v7 v18 v24 v25 v26 v27 v33 v39,h⟩ κn κx=aC v0 h (fun a0 h=>ao 14 a0 h (fun a1 h=>ar a1 h (fun a2 h=>ao 1 v3 h (fun a3 h=>ar a3 h (fun a4 h=>bT 1 a2 a4 h (fun a5 h=>ar a5 h (fun a6 h=>κn ⟨cg v0 v1 v3 v4 a6 v7 v18 v24 v25 v26 v27 v33 v39,h⟩))))))):=(cE (C:=CL mx) (ops:=opsOf (cAt [1,0] (aH (CL mx) 230))) (ps:=[0,1,3,4,5,7,18,24,25,26,27,33,39]) (by kernel_rfl) (by kernel_rfl) _ _ _).trans (by kernel_rfl)
theorem xe:kc (CL mx) run lp (aki mx) ⟨cg v0 v1 v3 v4 v5 v7 v18 v24 v25 v26 v27 v33 v39,h⟩ κn κx=kc (CL mx) run lp (aib mx) ⟨cg v0 v1 v3 v4 v5 v7 v18 v24 v25 v26 v27 v33 v39,h⟩ (fun s=>kc (CL mx) run lp (abD mx) s κn κx) κx:=by kernel_rfl
theorem xJ:kc (CL mx) run lp (aib mx) ⟨cg v0 v1 v3 v4 v5 v7 v18 v24 v25 v26 v27 v33 v39,h⟩ κn κx=ao 7 v3 h (fun a0 h=>ar a0 h (fun a1 h=>cmp ine a1 (.int 18446744073709551615 0) h (fun a2 h=>bG a2 (ao 7 v3 h (fun a3 h=>ar a3 h (fun a4 h=>ajJ v5 a4 h (fun a5 h=>κn ⟨cg v0 v1 v3 v4 a5 v7 a2 v24 v25 v26 v27 v33 v39,h⟩)))) (κn ⟨cg v0 v1 v3 v4 v5 v7 a2 v24 v25 v26 v27 v33 v39,h⟩)))):=by kernel_rfl
theorem agE:kc (CL mx) run lp (abD mx) ⟨cg v0 v1 v3 v4 v5 v7 v18 v24 v25 v26 v27 v33 v39,h⟩ κn κx=kc (CL mx) run lp (aik mx) ⟨cg v0 v1 v3 v4 v5 v7 v18 v24 v25 v26 v27 v33 v39,h⟩ (fun s=>kc (CL mx) run lp (aly mx) s κn κx) κx:=by kernel_rfl
theorem ahw:kc (CL mx) run lp (aik mx) ⟨cg v0 v1 v3 v4 v5 v7 v18 v24 v25 v26 v27 v33 v39,h⟩ κn κx=ao 8 v3 h (fun a0 h=>ar a0 h (fun a1 h=>bH a1 h (fun a2 h=>kcR κn (kcO 0 κn κx) (lp (adn mx) ⟨cg v0 v1 v3 v4 v5 v7 v18 a1 a2 (.int 9223372036854775807 0) v27 v33 v39,h⟩)))):=by kernel_rfl
theorem wq:kc (CL mx) run lp (aly mx) ⟨cg v0 v1 v3 v4 v5 v7 v18 v24 v25 v26 v27 v33 v39,h⟩ κn κx=kc (CL mx) run lp (alm mx) ⟨cg v0 v1 v3 v4 v5 v7 v18 v24 v25 v26 v27 v33 v39,h⟩ (fun s=>kc (CL mx) run lp (akc mx) s κn κx) κx:=by kernel_rfl
theorem rK:kc (CL mx) run lp (adn mx) ⟨cg v0 v1 v3 v4 v5 v7 v18 v24 v25 v26 v27 v33 v39,h⟩ κn κx=cmp ilt v26 v25 h (fun a0 h=>bG a0 (bT 2 v24 v26 h (fun a1 h=>aQ 2 a1 h (fun a2 h=>dY h (.cells [.int 18446744073709551615 0,.int 9223372036854775807 0] 431) (fun a3 h=>aK 2 a3 a2 h (fun a4 h=>ao 0 a3 h (fun a5 h=>ar a5 h (fun a6 h=>cmp cj a6 v5 h (fun a7 h=>bG a7 (ao 1 a3 h (fun a8 h=>ar a8 h (fun a9 h=>κx .ret ⟨cg v0 v1 v3 a9 v5 a3 v18 v24 v25 v26 a0 a7 v39,h⟩))) (arith fu v26 (.int 9223372036854775807 1) h (fun a8 h=>κn ⟨cg v0 v1 v3 v4 v5 a3 v18 v24 v25 a8 a0 a7 v39,h⟩)))))))))) (κx (.exit 0) ⟨cg v0 v1 v3 v4 v5 v7 v18 v24 v25 v26 a0 v33 v39,h⟩)):=by kernel_rfl
theorem wH:kc (CL mx) run lp (alm mx) ⟨cg v0 v1 v3 v4 v5 v7 v18 v24 v25 v26 v27 v33 v39,h⟩ κn κx=ao 2 v3 h (fun a0 h=>ar a0 h (fun a1 h=>cmp ilt a1 (.int 9223372036854775807 0) h (fun a2 h=>bG a2 (aC v0 h (fun a3 h=>ao 10 a3 h (fun a4 h=>ar a4 h (fun a5 h=>aL (fun a6 h=>κn ⟨cg v0 v1 v3 v4 v5 v7 v18 v24 v25 v26 v27 v33 a2,h⟩) (aD (CL mx) run 114 [v0,(.int 9223372036854775807 213),a5] h))))) (κn ⟨cg v0 v1 v3 v4 v5 v7 v18 v24 v25 v26 v27 v33 a2,h⟩)))):=by kernel_rfl
theorem wK:kc (CL mx) run lp (akc mx) ⟨cg v0 v1 v3 v4 v5 v7 v18 v24 v25 v26 v27 v33 v39,h⟩ κn κx=ao 2 v3 h (fun a0 h=>ar a0 h (fun a1 h=>jk true a1 (.int 9223372036854775807 0) h (fun a2 h=>κx .ret ⟨cg v0 v1 v3 a2 v5 v7 v18 v24 v25 v26 v27 v33 v39,h⟩))):=by kernel_rfl
theorem uP:kcE (CL mx) [.tmp 4] ⟨cg v0 v1 v3 v4 v5 v7 v18 v24 v25 v26 v27 v33 v39,h⟩=some (.vh v4 h):=(bJ _ _ _).trans (by kernel_rfl)
theorem aoL:dp (CL mx) 230=some ⟨acr mx,[0,1,3,4,5,7,18,24,25,26,27,33,39],49,[.tmp 4]⟩:=by kernel_rfl
end
theorem aiX (mx:Int) (run:Run) (lp:Lp) (x0 x1:AV) (h:AH):cW (CL mx) run lp 230 [x0,x1] h=vhO (kc (CL mx) run lp (acr mx) ⟨cg x0 x1 .bot .bot .bot .bot .bot .bot .bot .bot .bot .bot .bot,h⟩ (kcE (CL mx) [.tmp 4]) (kcQ (CL mx) [.tmp 4])):=(bK (by kernel_rfl) (aoL mx) (by kernel_rfl)).trans (by kernel_rfl)
theorem aan (mx:Int) (p:List Nat):eF (CL mx) (kAt p (kOf (CL mx) 230)):=jF p (jT (CL mx) 230)
end
section
variable {mx:Int} {m:Nat} {K:RC} {kd:Nat→Nat} {h:AH} {p:Nat} {c:PC} {s:PR}
def ie (w:Nat×Nat):List AV:=[U64 w.1,N64 w.2]
def RdR (h:AH) (S:Nat→Prop) (z:Nat) (v:AV) (rows:List (List AV)):Prop:=OwR h S z v rows∨((∀r∈rows,r.length=z)∧v= .slp rows.flatten rows.length)
theorem RdR.mono {h h':AH} {S S':Nat→Prop} {z:Nat} {v:AV} {rows:List (List AV)} (r:RdR h S z v rows) (m: ∀b,b<h.length→S b→S' b∧ae h' b=ae h b):RdR h' S' z v rows:=r.imp (fun o=>o.mono m) id
theorem RdR.bH {h:AH} {S:Nat→Prop} {z:Nat} {v:AV} {rows:List (List AV)} (r:RdR h S z v rows) (h':AH) (κ:Ka):bH v h' κ=κ (.int 9223372036854775807 (rows.length:Int)) h':=by
 rcases r with r|⟨_,rfl⟩
 ·exact r.bH h' κ
 ·rfl
theorem RdR.el {h:AH} {S:Nat→Prop} {z:Nat} {v:AV} {rows:List (List AV)} (r:RdR h S z v rows) {i:Nat} {q:List AV} (hq:rows[i]? =some q): ∃P,(∀(k:Nat) (h':AH) (κ:Ka),bT z v (.int k (i:Int)) h' κ=κ P h')∧(∀κ:Ka,aQ z P h κ=κ (.agg q) h)∧
 ∀(j:Nat) (c:AV),q[j]? =some c→ ∃M,(∀(h':AH) (κ:Ka),ao j P h' κ=κ M h')∧ ∀κ:Ka,ar M h κ=κ c h:=by
 rcases r with r|⟨hr,rfl⟩
 ·obtain ⟨b,_,el⟩:=r.el hq
  exact ⟨.pto b (i*z),el.idx,el.ldG,fun j c hj=>⟨.pto b (i*z+j),fun h' κ=>by rw [eE],el.ld1 j c hj⟩⟩
 ·have hi:i<rows.length:=(List.getElem?_eq_some_iff.1 hq).1
  have hql:q.length=z:=hr q (List.mem_of_getElem? hq)
  obtain ⟨A,B,rfl,hA⟩:=j7 hq
  have hAl:A.flatten.length=i*z:=by rw [jM fun r h=>hr r (by simp [h]),hA]
  have hfl:(A++q::B).flatten.length=(A++q::B).length*z:=jM hr
  refine ⟨.ptp (A++q::B).flatten (i*z),fun k h' κ=>?_,fun κ=>?_,fun j c hj=>⟨.ptp (A++q::B).flatten (i*z+j),fun h' κ=>by rw [aei],fun κ=>?_⟩⟩
  ·rw [yW,decide_eq_true hi];rfl
  ·rw [yZ]
   have e0:(A++q::B).flatten=A.flatten++(q++B.flatten):=by simp
   rw [e0,←hAl,List.drop_left,←hql,List.take_left,decide_eq_true (show A.flatten.length+q.length≤(A.flatten++(q++B.flatten)).length by simp)];rfl
  ·have hjz:j<q.length:=(List.getElem?_eq_some_iff.1 hj).1
   have e0:(A++q::B).flatten=A.flatten++(q++B.flatten):=by simp
   have:(A++q::B).flatten[i*z+j]? =some c:=by
    rw [e0,←hAl,List.getElem?_append_right (by omega),Nat.add_sub_cancel_left,List.getElem?_append_left hjz,hj]
   rw [yz,this];rfl
theorem alR {Q:Option Rs→Prop} {κn:Kt} {κx:Ex→Kt} {S:Nat→Prop} {wv v0 v1 v3 v4 v18 v39:AV} {ways:List (Nat×Nat)} (O:RdR h S 2 wv (ways.map ie)) (hl:ways.length≤1000000) {n:Nat}:
 ∀(R A:List (Nat×Nat)) (f:Nat) (h1:AH) (v7 v27 v33:AV),ways=A++R→R.length+2≤f→h.length≤h1.length→(∀i,i<h.length→ae h1 i=ae h i)→
  (∀w h2 v7 v26 v27 v33,R.find? (fun w=>w.1=n)=some w→h.length≤h2.length→(∀i,i<h.length→ae h2 i=ae h i)→Q (κx .ret ⟨cg v0 v1 v3 (.int 9223372036854775807 (w.2:Int)) (.int 18446744073709551615 (n:Int)) v7 v18 wv (.int 9223372036854775807 (ways.length:Int)) v26 v27 v33 v39,h2⟩))→
  (∀h2 v7 v26 v27 v33,R.find? (fun w=>w.1=n)=none→h.length≤h2.length→(∀i,i<h.length→ae h2 i=ae h i)→Q (κx (.exit 0) ⟨cg v0 v1 v3 v4 (.int 18446744073709551615 (n:Int)) v7 v18 wv (.int 9223372036854775807 (ways.length:Int)) v26 v27 v33 v39,h2⟩))→
  Q (kcR κn κx ((rl (CL mx) f).lp (adn mx) ⟨cg v0 v1 v3 v4 (.int 18446744073709551615 (n:Int)) v7 v18 wv (.int 9223372036854775807 (ways.length:Int)) (.int 9223372036854775807 (A.length:Int)) v27 v33 v39,h1⟩)):=by
 intro R
 induction R with
 |nil=>
  intro A f h1 v7 v27 v33 hP hf l1 f1 k1 k2
  obtain ⟨f,rfl⟩:=fuel hf
  have hA:A.length=ways.length:=by rw [hP];simp
  refine iX (aan mx _) ?_
  have g:decide ((A.length:Int)<(ways.length:Int))=false:=by rw [decide_eq_false_iff_not];omega
  simp only [sy,List.length_append,Nat.reduceAdd,Nat.reduceMul,Nat.reduceSub,Nat.reduceLeDiff,Nat.reduceEqDiff,Nat.reduceLT,reduceIte,rK,g]
  exact k2 _ _ _ _ _ rfl l1 f1
 |cons w R ih=>
  intro A f h1 v7 v27 v33 hP hf l1 f1 k1 k2
  obtain ⟨f,rfl⟩:=fuel hf
  have hlen:ways.length=A.length+(R.length+1):=by rw [hP];simp
  have g:decide ((A.length:Int)<(ways.length:Int))=true:=by rw [decide_eq_true_iff];omega
  have ew:(ways.map ie)[A.length]? =some (ie w):=by rw [hP];simp
  have O1:RdR h1 S 2 wv (ways.map ie):=O.mono fun b hb hs=>⟨hs,f1 b hb⟩
  obtain ⟨P,ix,lG,_⟩:=O1.el ew
  have st: ∀κ:Ka,aK 2 (.pto h1.length 0) (.agg (ie w)) (h1++[some (.cells [.int 18446744073709551615 0,.int 9223372036854775807 0] (430+1))]) κ=κ (.tup []) (h1++[some (.cells (ie w) (430+1))]):=fun κ=>cY rfl rfl rfl
  have hz:=aI h1 (some (Blk.cells (ie w) (430+1)))
  have w1:aZ 9223372036854775807 ((A.length:Int)+1)=((A.length+1:Nat):Int):=by rw [bd (by omega) (by omega)];simp
  have l2:h.length≤(h1++[some (Blk.cells (ie w) (430+1))]).length:=by rw [List.length_append];omega
  have f2: ∀i,i<h.length→ae (h1++[some (Blk.cells (ie w) (430+1))]) i=ae h i:=fun i hi=>by rw [aq (by omega)];exact f1 i hi
  have fe:(w::R).find? (fun w=>decide (w.1=n))=if w.1=n then some w else R.find? (fun w=>decide (w.1=n)):=by
   rw [List.find?_cons]
   by_cases hc:w.1=n
   ·rw [decide_eq_true hc,if_pos hc]
   ·rw [decide_eq_false hc,if_neg hc]
  rw [fe] at k1 k2
  refine iX (aan mx _) ?_
  by_cases hc:w.1=n
  ·rw [if_pos hc] at k1
   have g2:decide ((w.1:Int)=(n:Int))=true:=by rw [decide_eq_true_iff];omega
   simp only [sy,List.length_append,Nat.reduceAdd,Nat.reduceMul,Nat.reduceSub,Nat.reduceLeDiff,Nat.reduceEqDiff,Nat.reduceLT,reduceIte,rK,g,ix,lG,st,hz,show (ie w)[0]? =some (.int 18446744073709551615 (w.1:Int)) from rfl,show (ie w)[1]? =some (.int 9223372036854775807 (w.2:Int)) from rfl,g2]
   exact k1 w _ _ _ _ _ rfl l2 f2
  ·rw [if_neg hc] at k1 k2
   have g2:decide ((w.1:Int)=(n:Int))=false:=by rw [decide_eq_false_iff_not];omega
   simp only [sy,List.length_append,Nat.reduceAdd,Nat.reduceMul,Nat.reduceSub,Nat.reduceLeDiff,Nat.reduceEqDiff,Nat.reduceLT,reduceIte,rK,g,ix,lG,st,hz,show (ie w)[0]? =some (.int 18446744073709551615 (w.1:Int)) from rfl,g2,w1]
   have:=ih (A++[w]) (f+R.length+2) _ (.pto h1.length 0) (.bool true) (.bool false) (by rw [hP];simp) (by omega) l2 f2 k1 k2
   rw [show (A++[w]).length=A.length+1 by simp] at this
   exact this
def PR.aaD (q:PS) (s:PR) (n:Nat):Nat×PR:=match q.ways.find? (fun w=>w.1=n) with
 |some w=>(w.2,s)
 |none=>if q.b<0 then (0,s.bh 213 s.at_) else (q.b.toNat,s)
theorem ago (R:RS m K kd h p c s) (W:Wf c s) {q:PS} {wv:AV} {bs:List AV} (hbs:(stC q wv bs).length=265) (hpl:aR (stC q wv bs)=true) (O:RdR h (fun b=>b<m) 2 wv (q.ways.map ie)) (hl:q.ways.length≤1000000) (ha:0≤q.a∧q.a<(s.slots.length:Int)) (hs: ∀x∈s.slots,x<18446744073709551616) (f:Nat):
 aG (fun x h'=>x= .int 9223372036854775807 ((s.pick q).1:Int)∧Nx h.length m K kd h p c (s.pick q).2 h') ((rl (CL mx) (f+q.ways.length+10)).run 230 [.pto p 0,.agg (stC q wv bs)] h):=by
 refine aG.runs (n:=f+q.ways.length+9) (aiX mx _ _ _ _ _) ?_
 have hz:=aI h (some (Blk.cells (stC q wv bs) (308+1)))
 have R0:=R.grow (h':=h++[some (Blk.cells (stC q wv bs) (308+1))]) (by simp) (fun i hi=>aq hi _)
 have bx: ∀κ:Ka,gZ (308+1) (.agg (stC q wv bs)) h κ=κ (.pto h.length 0) (h++[some (Blk.cells (stC q wv bs) (308+1))]):=fun κ=>by rw [dP];rfl
 have fz: ∀i,i<h.length→ae (h++[some (Blk.cells (stC q wv bs) (308+1))]) i=ae h i:=fun i hi=>aq hi _
 have hl0:(h++[some (Blk.cells (stC q wv bs) (308+1))]).length=h.length+1:=by simp
 have k0:cN kd h.length 0 h.length=0:=fP (Nat.le_refl _)
 have O0:RdR (h++[some (Blk.cells (stC q wv bs) (308+1))]) (fun b=>b<m) 2 wv (q.ways.map ie):=O.mono fun b hb hs=>⟨hs,fz b hb⟩
 refine wEq (agZ ..) ?_
 refine wEq (bx _) ?_
 generalize h++[some (Blk.cells (stC q wv bs) (308+1))]=h0 at*
 obtain ⟨j,hj⟩:=Int.eq_ofNat_of_zero_le ha.1
 have hjl:j<s.slots.length:=by omega
 obtain ⟨stp,y,sl,st,ct,cl,QQ,hp,o2,o3,ok,o4,o5⟩:=R0.ex
 have hp':=hp
 unfold rdL at hp'
 obtain ⟨P,b,X,ix,ld,_⟩:=pL o2 hjl 0
 have hx:s.slots.getD j 0<18446744073709551616:=by
  have:s.slots.getD j 0=s.slots[j]:=by simp [List.getD_eq_getElem?_getD,hjl]
  rw [this];exact hs _ (List.getElem_mem _)
 have pk:s.pick q=s.aaD q (if q.add=0 then s.slots.getD j 0 else s.slots.getD j 0%q.add):=by
  unfold PR.pick PR.aaD
  rw [show q.a.toNat=j by omega]
  rfl
 generalize s.slots.getD j 0=v at*
 rw [pk]
 clear pk
 have key: ∀(n:Nat) (v4 v7 v18 v24 v25 v26 v27 v33 v39:AV),Ends (fun x h'=>x= .int 9223372036854775807 ((s.aaD q n).1:Int)∧Nx h.length m K kd h p c (s.aaD q n).2 h') (kc (CL mx) (rl (CL mx) (f+q.ways.length+9)).run (rl (CL mx) (f+q.ways.length+9)).lp (abD mx) ⟨cg (.pto p 0) (.agg (stC q wv bs)) (.pto h.length 0) v4 (.int 18446744073709551615 (n:Int)) v7 v18 v24 v25 v26 v27 v33 v39,h0⟩ (kcE (CL mx) [.tmp 4]) (kcQ (CL mx) [.tmp 4])):=by
  intro n v4 v7 v18 v24 v25 v26 v27 v33 v39
  have len:=fun (h':AH) (κ:Ka)=>O0.bH h' κ
  rw [List.length_map] at len
  simp only [sy,List.length_append,Nat.reduceAdd,Nat.reduceMul,Nat.reduceSub,Nat.reduceLeDiff,Nat.reduceEqDiff,Nat.reduceLT,reduceIte,agE,ahw,hz,eK,len]
  unfold PR.aaD
  refine alR O0 hl q.ways [] (f+q.ways.length+9) h0 _ _ _ rfl (by omega) (Nat.le_refl _) (fun i _=>rfl) (fun w h2 v7 v26 v27 v33 e l2 f2=>?_) (fun h2 v7 v26 v27 v33 e l2 f2=>?_)
  ·rw [e]
   simp only [sy,List.length_append,Nat.reduceAdd,Nat.reduceMul,Nat.reduceSub,Nat.reduceLeDiff,Nat.reduceEqDiff,Nat.reduceLT,reduceIte,uP]
   exact Ends.mk ⟨rfl,cN kd h.length 0,R.grow (by omega) (fun i hi=>by rw [f2 i (by omega)];exact fz i hi),by omega,fun i hi h0'=>⟨by rw [f2 i (by omega)];exact fz i hi,by rw [bR hi];exact h0'⟩⟩
  ·rw [e]
   have R2:=R.grow (h':=h2) (by omega) (fun i hi=>by rw [f2 i (by omega)];exact fz i hi)
   have hz2:=(f2 h.length (by omega)).trans hz
   have fx2: ∀i,i<h.length→kd i=0→ae h2 i=ae h i∧cN kd h.length 0 i=0:=fun i hi h0'=>⟨by rw [f2 i (by omega)];exact fz i hi,by rw [bR hi];exact h0'⟩
   obtain ⟨stp2,y2,sl2,st2,ct2,cl2,QQ2,hp2,_⟩:=R2.ex
   unfold rdL at hp2
   by_cases hb:q.b<0
   ·have g:decide (q.b<0)=true:=decide_eq_true hb
    have mxx:max q.b 0=((0:Nat):Int):=by omega
    rw [if_pos hb]
    simp only [sy,List.length_append,Nat.reduceAdd,Nat.reduceMul,Nat.reduceSub,Nat.reduceLeDiff,Nat.reduceEqDiff,Nat.reduceLT,reduceIte,wq,wH,hz2,eK,g,hp2,n64]
    refine bE (eM R2 213 s.at_ (f+q.ways.length+8)).call ?_
    rintro x h3 ⟨rfl,R3,n3,f3⟩
    have hz3:ae h3 h.length=some (.cells (stC q wv bs) (308+1)):=by rw [f3 _ (by rw [k0];decide)];exact hz2
    simp only [sy,List.length_append,Nat.reduceAdd,Nat.reduceMul,Nat.reduceSub,Nat.reduceLeDiff,Nat.reduceEqDiff,Nat.reduceLT,reduceIte,wK,hz3,eK,mxx,uP]
    exact Ends.mk ⟨rfl,cN kd h.length 0,R3,by omega,fun i hi h0'=>⟨by rw [f3 i (by rw [(fx2 i hi h0').2];decide)];exact (fx2 i hi h0').1,(fx2 i hi h0').2⟩⟩
   ·have g:decide (q.b<0)=false:=decide_eq_false hb
    have mxx:max q.b 0=((q.b.toNat:Nat):Int):=by omega
    rw [if_neg hb]
    simp only [sy,List.length_append,Nat.reduceAdd,Nat.reduceMul,Nat.reduceSub,Nat.reduceLeDiff,Nat.reduceEqDiff,Nat.reduceLT,reduceIte,wq,wH,wK,hz2,eK,g,mxx,uP]
    exact Ends.mk ⟨rfl,cN kd h.length 0,R2,by omega,fx2⟩
 by_cases ha0:q.add=0
 ·rw [if_pos ha0]
  have g:decide ((q.add:Int)≠0)=false:=by rw [decide_eq_false_iff_not];omega
  simp only [sy,List.length_append,Nat.reduceAdd,Nat.reduceMul,Nat.reduceSub,Nat.reduceLeDiff,Nat.reduceEqDiff,Nat.reduceLT,reduceIte,xw,xe,xJ,hz,eK,hj,hp',ix,ld,g]
  exact key _ _ _ _ _ _ _ _ _ _
 ·rw [if_neg ha0]
  have g:decide ((q.add:Int)≠0)=true:=by rw [decide_eq_true_iff];omega
  have re:anq (v:Int) (q.add:Int)=((v%q.add:Nat):Int):=rfl
  simp only [sy,List.length_append,Nat.reduceAdd,Nat.reduceMul,Nat.reduceSub,Nat.reduceLeDiff,Nat.reduceEqDiff,Nat.reduceLT,reduceIte,xw,xe,xJ,hz,eK,hj,hp',ix,ld,g,re]
  exact key _ _ _ _ _ _ _ _ _ _
end
end Go.Proofs.YteapfopaiocpeaaGreatDoor
