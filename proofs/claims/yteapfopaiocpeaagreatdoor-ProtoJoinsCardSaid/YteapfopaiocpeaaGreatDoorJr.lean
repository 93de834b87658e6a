/- Rows of records: laid behind each other, looked through. The functions' code is printed by a program. -/
import Derived.Test.YteapfopaiocpeaaGreatDoorRt
import Derived.Test.YteapfopaiocpeaaGreatDoorJp
namespace Go.Proofs.YteapfopaiocpeaaGreatDoor
set_option linter.unusedSimpArgs false
set_option linter.unusedVariables false
set_option linter.unnecessarySimpa false
set_option linter.defProp false
noncomputable section
def ey (v0 v1 v4 v5 v7 v8 v9 v10 v11 v17:AV):Tm:=(.nd 8 (.nd 4 (.nd 1 (.lf 0 v0) (.lf 1 v1)) (.nd 5 (.lf 4 v4) (.nd 7 (.lf 5 v5) (.lf 7 v7)))) (.nd 10 (.nd 9 (.lf 8 v8) (.lf 9 v9)) (.nd 11 (.lf 10 v10) (.nd 17 (.lf 11 v11) (.lf 17 v17)))))
def ado (mx:Int):K:=kAt [] (kOf (CL mx) 11)
def ajY (mx:Int):K:=kAt [1,1,0] (kOf (CL mx) 11)
def aiz (mx:Int):K:=kAt [1,1,1] (kOf (CL mx) 11)
def abr (mx:Int):K:=kAt [1,1,0,1,0,0] (kOf (CL mx) 11)
def ah0 (mx:Int):K:=kAt [1,1,0,1,0,0,1,1,0] (kOf (CL mx) 11)
def amO (mx:Int):K:=kAt [1,1,0,1,0,0,1,1,1] (kOf (CL mx) 11)
section
set_option maxRecDepth 100000
variable (mx:Int) (run:Run) (lp:Lp) (κn:Kt) (κx:Ex→Kt) (h:AH) (v0 v1 v4 v5 v7 v8 v9 v10 v11 v17:AV)
theorem agd:kc (CL mx) run lp (ado mx) ⟨ey v0 v1 v4 v5 v7 v8 v9 v10 v11 v17,h⟩ κn κx=kc (CL mx) run lp (ajY mx) ⟨ey v0 v1 (.nils) (.nils) v7 v8 v9 v10 v11 v17,h⟩ (fun s=>kc (CL mx) run lp (aiz mx) s κn κx) κx:=by kernel_rfl
theorem age:kc (CL mx) run lp (ajY mx) ⟨ey v0 v1 v4 v5 v7 v8 v9 v10 v11 v17,h⟩ κn κx=bH v1 h (fun a0 h=>kcR κn (kcO 0 κn κx) (lp (abr mx) ⟨ey v0 v1 v4 v5 v7 v1 a0 (.int 9223372036854775807 0) v11 v17,h⟩)):=by kernel_rfl
theorem ahJ:kc (CL mx) run lp (aiz mx) ⟨ey v0 v1 v4 v5 v7 v8 v9 v10 v11 v17,h⟩ κn κx=κx .ret ⟨ey v0 v1 v5 v5 v7 v8 v9 v10 v11 v17,h⟩:=by kernel_rfl
theorem wD:kc (CL mx) run lp (abr mx) ⟨ey v0 v1 v4 v5 v7 v8 v9 v10 v11 v17,h⟩ κn κx=cmp ilt v10 v9 h (fun a0 h=>bG a0 (kc (CL mx) run lp (ah0 mx) ⟨ey v0 v1 v4 v5 v7 v8 v9 v10 a0 v17,h⟩ (fun s=>kc (CL mx) run lp (amO mx) s κn κx) κx) (κx (.exit 0) ⟨ey v0 v1 v4 v5 v7 v8 v9 v10 a0 v17,h⟩)):=by kernel_rfl
theorem af5:kc (CL mx) run lp (ah0 mx) ⟨ey v0 v1 v4 v5 v7 v8 v9 v10 v11 v17,h⟩ κn κx=bT 4 v8 v10 h (fun a0 h=>aQ 4 a0 h (fun a1 h=>dY h (.cells [.int 9223372036854775807 0,.int 9223372036854775807 0,.int 18446744073709551615 0,.nils] 43) (fun a2 h=>aK 4 a2 a1 h (fun a3 h=>ao 0 a2 h (fun a4 h=>ar a4 h (fun a5 h=>cmp cj a5 v0 h (fun a6 h=>bG a6 (aQ 4 a2 h (fun a7 h=>fD 4 1 [.int 9223372036854775807 0,.int 9223372036854775807 0,.int 18446744073709551615 0,.nils] [(0,a7)] h (fun a8 h=>eH 43 4 48 v5 a8 h (fun a9 h=>κn ⟨ey v0 v1 v4 a9 a2 v8 v9 v10 v11 a6,h⟩)))) (κn ⟨ey v0 v1 v4 v5 a2 v8 v9 v10 v11 a6,h⟩)))))))):=by kernel_rfl
theorem xa:kc (CL mx) run lp (amO mx) ⟨ey v0 v1 v4 v5 v7 v8 v9 v10 v11 v17,h⟩ κn κx=arith fu v10 (.int 9223372036854775807 1) h (fun a0 h=>κn ⟨ey v0 v1 v4 v5 v7 v8 v9 a0 v11 v17,h⟩):=by kernel_rfl
theorem alS:kcE (CL mx) [.tmp 4] ⟨ey v0 v1 v4 v5 v7 v8 v9 v10 v11 v17,h⟩=some (.vh v4 h):=(bJ _ _ _).trans (by kernel_rfl)
theorem anu:dp (CL mx) 11=some ⟨ado mx,[0,1,4,5,7,8,9,10,11,17],24,[.tmp 4]⟩:=by kernel_rfl
end
theorem amK (mx:Int) (run:Run) (lp:Lp) (x0 x1:AV) (h:AH):cW (CL mx) run lp 11 [x0,x1] h=vhO (kc (CL mx) run lp (ado mx) ⟨ey x0 x1 .bot .bot .bot .bot .bot .bot .bot .bot,h⟩ (kcE (CL mx) [.tmp 4]) (kcQ (CL mx) [.tmp 4])):=(bK (by kernel_rfl) (anu mx) (by kernel_rfl)).trans (by kernel_rfl)
theorem zI (mx:Int) (p:List Nat):eF (CL mx) (kAt p (kOf (CL mx) 11)):=jF p (jT (CL mx) 11)
def tO (v0 v1 v4 v5 v6 v12:AV):Tm:=(.nd 5 (.nd 1 (.lf 0 v0) (.nd 4 (.lf 1 v1) (.lf 4 v4))) (.nd 6 (.lf 5 v5) (.nd 12 (.lf 6 v6) (.lf 12 v12))))
def acA (mx:Int):K:=kAt [] (kOf (CL mx) 12)
section
set_option maxRecDepth 100000
variable (mx:Int) (run:Run) (lp:Lp) (κn:Kt) (κx:Ex→Kt) (h:AH) (v0 v1 v4 v5 v6 v12:AV)
theorem agV:kc (CL mx) run lp (acA mx) ⟨tO v0 v1 v4 v5 v6 v12,h⟩ κn κx=dY h (.cells [.int 9223372036854775807 0,.int 9223372036854775807 0,.int 18446744073709551615 0,.nils] 43) (fun a0 h=>aL (fun a1 h=>bH a1 h (fun a2 h=>cmp cj a2 (.int 9223372036854775807 0) h (fun a3 h=>bG a3 (gU (placeOf (CL mx) [(0,3),(1,3),(2,40),(3,22)]) [.int 9223372036854775807 0,.int 9223372036854775807 0,.int 18446744073709551615 0,.nils] [] h (fun a4 h=>aK 4 a0 a4 h (fun a5 h=>κx .ret ⟨tO v0 v1 a0 (.bool false) a1 a3,h⟩))) (bH a1 h (fun a4 h=>arith iT a4 (.int 9223372036854775807 1) h (fun a5 h=>bT 4 a1 a5 h (fun a6 h=>aQ 4 a6 h (fun a7 h=>aK 4 a0 a7 h (fun a8 h=>κx .ret ⟨tO v0 v1 a0 (.bool true) a1 a3,h⟩))))))))) (aD (CL mx) run 11 [v0,v1] h)):=by kernel_rfl
theorem aaC:kcE (CL mx) [.cell 4 42,.tmp 5] ⟨tO v0 v1 v4 v5 v6 v12,h⟩=aQ 4 v4 h (fun r0 _=>some (.vh (.tup [r0,v5]) h)):=(bJ _ _ _).trans (by kernel_rfl)
theorem anP:dp (CL mx) 12=some ⟨acA mx,[0,1,4,5,6,12],20,[.cell 4 42,.tmp 5]⟩:=by kernel_rfl
end
theorem aij (mx:Int) (run:Run) (lp:Lp) (x0 x1:AV) (h:AH):cW (CL mx) run lp 12 [x0,x1] h=vhO (kc (CL mx) run lp (acA mx) ⟨tO x0 x1 .bot .bot .bot .bot,h⟩ (kcE (CL mx) [.cell 4 42,.tmp 5]) (kcQ (CL mx) [.cell 4 42,.tmp 5])):=(bK (by kernel_rfl) (anP mx) (by kernel_rfl)).trans (by kernel_rfl)
end
section
variable {mx:Int} {h:AH} {S:Nat→Prop} {z:Nat} {v:AV} {rows Q:List (List AV)} {b cap:Nat} {e:Bool} {junk:List AV} {y:Nat}
theorem OwB.apps (ty:Nat) {by_:Nat} (hby:by_≤1000) (o:OwB h z v rows b cap e junk y) (hr: ∀r∈rows,r.length=z) {x:AV} (hx1:lO x=some Q.length) (hx2:cQ h z Q.length x=some Q.flatten) (hQ: ∀r∈Q,r.length=z) (hp:aR Q.flatten=true) (hl:rows.length+Q.length≤100000):
 ∃v' h' b' cap' e' junk' y',(∀κ:Ka,eH ty z by_ v x h κ=κ v' h')∧OwB h' z v' (rows++Q) b' cap' e' junk' y'∧(b'=b∨b'=h.length)∧h.length≤h'.length∧(∀i,i≠b→i<h.length→ae h' i=ae h i):=by
 have hlt:=o.lt
 have hlen2:=o.len2
 have hrl:=jM hr
 have hql:=jM hQ
 obtain ⟨rfl,hb,hcap,hlen⟩:=o
 have step: ∀κ:Ka,eH ty z by_ (.slo b 0 rows.length cap z e) x h κ=apC ty z by_ Q.length Q.flatten h κ b 0 rows.length cap e (rows.flatten++junk) y:=by
  intro κ
  unfold eH
  rw [hx1,aT,hx2,aT,hp,jr,ah,hql,show Nat.mul Q.length z=Q.length*z from rfl,decide_eq_true rfl]
  show bq (Nat.beq z z) (dr h b (apC ty z by_ Q.length Q.flatten h κ b 0 rows.length cap e) _) none=_
  rw [jr,decide_eq_true rfl]
  show dr h b _ _=_
  unfold dr
  rw [hb];rfl
 have hadd:(rows++Q).length=rows.length+Q.length:=by simp
 by_cases hroom:rows.length+Q.length≤cap
 ·have hnz:rows.length*z+Q.length*z≤cap*z:=by rw [←Nat.add_mul];exact Nat.mul_le_mul_right _ hroom
  refine ⟨.slo b 0 (rows.length+Q.length) cap z e,h.set b (some (.cells (rows.flatten++(Q.flatten++junk.drop (Q.length*z))) y)),b,cap,e,junk.drop (Q.length*z),y,fun κ=>?_,⟨by rw [hadd],?_,by rw [hadd];exact hroom,?_⟩,.inl rfl,by simp,fun i hi hl=>by rw [ai (by omega)]⟩
  ·rw [step]
   unfold apC
   rw [bL,bf (show Nat.add rows.length Q.length≤cap from hroom),bL,ah,hlen2,bf (by show 0+(rows.length+Q.length)*z≤cap*z;rw [Nat.add_mul];omega)]
   unfold fZ
   rw [cn,aM,ba,aP,aP,ah,hql]
   show κ (.slo b 0 (rows.length+Q.length) cap z e) (h.set b (some (.cells ((rows.flatten++junk).take (0+rows.length*z)++(Q.flatten++(rows.flatten++junk).drop (0+rows.length*z+Q.length*z))) y)))=_
   rw [Nat.zero_add,←hrl,List.take_left,←List.drop_drop,List.drop_left]
  ·rw [az hlt];simp
  ·simp only [List.flatten_append,List.length_append,List.length_drop,hql]
   omega
 ·have hlb:(bq e h (h.set b none)).length=h.length:=by cases e<;>simp [bq]
  refine ⟨.slo h.length 0 (rows.length+Q.length) (rows.length+Q.length) z false,(bq e h (h.set b none))++[some (.cells (rows.flatten++Q.flatten) (bq (Nat.beq y ty) ty 0))],h.length,rows.length+Q.length,false,[],bq (Nat.beq y ty) ty 0,fun κ=>?_,⟨by rw [hadd],?_,by rw [hadd];exact Nat.le_refl _,?_⟩,.inr rfl,by rw [List.length_append,hlb];omega,fun i hi hl=>?_⟩
  ·rw [step]
   unfold apC
   rw [bL,gy (show ¬Nat.add rows.length Q.length≤cap from hroom)]
   have r1:and (and (jb by_ (Nat.add rows.length Q.length)) (Nat.ble (Nat.add 0 (Nat.mul rows.length z)) (aj (rows.flatten++junk)))) (or e (Nat.beq 0 0))=true:=by
    unfold jb
    rw [bL,bL,bL,ah,hlen2,decide_eq_true (by show (rows.length+Q.length)*by_≤140737488355328;exact Nat.le_trans (Nat.mul_le_mul (show rows.length+Q.length≤100001 by omega) hby) (by decide)),decide_eq_true (by show rows.length+Q.length≤140737488355328;omega),decide_eq_true (by show 0+rows.length*z≤cap*z;rw [Nat.zero_add];exact Nat.mul_le_mul_right _ hcap)]
    cases e<;>rfl
   rw [r1,aw,ah,aP,aP,cn,aM,ba]
   show κ (.slo h.length 0 (rows.length+Q.length) (rows.length+Q.length) z false) (bq e h (h.set b none)++[some (.cells (List.take (rows.length*z) (List.drop 0 (rows.flatten++junk))++Q.flatten) (bq (Nat.beq y ty) ty 0))])=_
   rw [List.drop_zero,←hrl,List.take_left]
  ·rw [←hlb,aI];simp
  ·simp only [List.flatten_append,List.length_append,hql,hrl];simp [Nat.add_mul]
  ·rw [aq (by rw [hlb];exact hl)]
   cases e with
   |true=>rfl
   |false=>show ae (h.set b none) i=_;rw [ai (by omega)]
def OwN (h:AH) (S:Nat→Prop) (z:Nat) (v:AV) (rows:List (List AV)):Prop:=(∀r∈rows,r.length=z)∧ ∃b cap e junk y,S b∧OwB h z v rows b cap e junk y
theorem OwN.toR (o:OwN h S z v rows):OwR h S z v rows:=⟨o.1,.inr o.2⟩
theorem OwR.elems (o:OwR h S z v rows):lO v=some rows.length∧cQ h z rows.length v=some rows.flatten:=by
 obtain ⟨hr,⟨rfl,rfl⟩|⟨b,cap,e,junk,y,hs,o⟩⟩:=o
 ·exact ⟨rfl,rfl⟩
 ·have hrl:=jM hr
  obtain ⟨rfl,hb,hcap,hlen⟩:=o
  refine ⟨rfl,?_⟩
  unfold cQ
  simp only [hb]
  rw [bL,ah,aM,ba,bf (by show 0+rows.length*z≤_;rw [List.length_append,hrl];omega),List.drop_zero]
  show some ((rows.flatten++junk).take (rows.length*z))=_
  rw [←hrl,List.take_left]
theorem OwN.apps (ty:Nat) {by_:Nat} (hby:by_≤1000) (o:OwN h S z v rows) {x:AV} (hx1:lO x=some Q.length) (hx2:cQ h z Q.length x=some Q.flatten) (hQ: ∀r∈Q,r.length=z) (hp:aR Q.flatten=true) (hl:rows.length+Q.length≤100000):
 ∃v' h',(∀κ:Ka,eH ty z by_ v x h κ=κ v' h')∧OwN h' (fun i=>S i∨i=h.length) z v' (rows++Q)∧h.length≤h'.length∧(∀i,¬S i→i<h.length→ae h' i=ae h i):=by
 obtain ⟨hr,b,cap,e,junk,y,hs,o⟩:=o
 obtain ⟨v',h',b',cap',e',junk',y',e1,o',hb',hl',hf⟩:=o.apps ty hby hr hx1 hx2 hQ hp hl
 refine ⟨v',h',e1,⟨fun r hm=>?_,b',cap',e',junk',y',?_,o'⟩,hl',fun i hi hlt=>hf i (fun c=>hi (c▸hs)) hlt⟩
 ·rcases List.mem_append.1 hm with hm|hm
  ·exact hr r hm
  ·exact hQ r hm
 ·rcases hb' with rfl|rfl
  ·exact .inl hs
  ·exact .inr rfl
theorem OwN.mono {h':AH} {S':Nat→Prop} (r:OwN h S z v rows) (m: ∀b,b<h.length→S b→S' b∧ae h' b=ae h b):OwN h' S' z v rows:=by
 obtain ⟨hr,b,cap,e,junk,y,hs,o⟩:=r
 obtain ⟨m1,m2⟩:=m b o.lt hs
 exact ⟨hr,b,cap,e,junk,y,m1,⟨o.val,by rw [m2];exact o.blk,o.fit,o.len⟩⟩
theorem vB (h:AH) (κ:Ka):fD 4 0 [.int 9223372036854775807 0,.int 9223372036854775807 0,.int 18446744073709551615 0,.nils] [] h κ=κ (.slo h.length 0 0 0 4 true) (h++[some (.cells [] 0)]):=by
 have e:fD 4 0 [.int 9223372036854775807 0,.int 9223372036854775807 0,.int 18446744073709551615 0,.nils] [] h κ=κ (.slo (aj h) 0 0 0 4 true) (aJ h [some (.cells [] 0)]):=by kernel_rfl
 rw [e,ah,aP]
theorem ab3 (h:AH) (κ:Ka):fD 1 0 [.int 255 0] [] h κ=κ (.slo h.length 0 0 0 1 true) (h++[some (.cells [] 0)]):=by
 have e:fD 1 0 [.int 255 0] [] h κ=κ (.slo (aj h) 0 0 0 1 true) (aJ h [some (.cells [] 0)]):=by kernel_rfl
 rw [e,ah,aP]
theorem OwN.empty (S:Nat→Prop) (z:Nat) (h:AH) (hs:S h.length):OwN (h++[some (.cells [] 0)]) S z (.slo h.length 0 0 0 z true) []:=⟨by simp,h.length,0,true,[],0,hs,⟨rfl,by rw [aI];rfl,Nat.le_refl _,by simp⟩⟩
end
def apc (h0:AH) (r:List AV) (x:dm):Prop:=∃dv,r=[N64 x.num,N64 x.ty,U64 x.val,dv]∧dv.plain=true∧dv.lt h0.length=true∧dq h0 dv (aS x.dat)
def eA (h0:AH) (rows:List (List AV)) (L:List dm):Prop:=rows.length=L.length∧ ∀(i:Nat) r x,rows[i]? =some r→L[i]? =some x→apc h0 r x
theorem eA.nil (h0:AH):eA h0 [] []:=⟨rfl,fun i r x h=>by simp at h⟩
theorem eA.app {h0:AH} {R Q:List (List AV)} {A B:List dm} (a:eA h0 R A) (b:eA h0 Q B):eA h0 (R++Q) (A++B):=by
 refine ⟨by rw [List.length_append,List.length_append,a.1,b.1],fun i r x hi hx=>?_⟩
 by_cases hl:i<A.length
 ·rw [List.getElem?_append_left (by have:=a.1;omega)] at hi
  rw [List.getElem?_append_left hl] at hx
  exact a.2 i r x hi hx
 ·rw [List.getElem?_append_right (by have:=a.1;omega)] at hi
  rw [List.getElem?_append_right (by omega)] at hx
  rw [a.1] at hi
  exact b.2 _ r x hi hx
theorem eA.four {h0:AH} {R:List (List AV)} {A:List dm} (a:eA h0 R A): ∀r∈R,r.length=4∧aR r=true:=by
 intro r hr
 obtain ⟨i,hi,e⟩:=List.getElem_of_mem hr
 obtain ⟨x,hx⟩: ∃x,A[i]? =some x:=⟨_,List.getElem?_eq_getElem (by have:=a.1;omega)⟩
 obtain ⟨dv,e2,p,_,_⟩:=a.2 i r x (by rw [List.getElem?_eq_getElem hi,e]) hx
 subst e2
 refine ⟨rfl,?_⟩
 show and true (and true (and true (and dv.plain true)))=true
 rw [p];rfl
theorem hJ: ∀{R:List (List AV)},(∀r∈R,aR r=true)→aR R.flatten=true
 |[],_=>rfl
 |r::R,h=>by
  rw [List.flatten_cons]
  have h1:=h r (List.mem_cons_self ..)
  have h2:=hJ fun x hx=>h x (List.mem_cons_of_mem _ hx)
  clear h
  induction r with
  |nil=>exact h2
  |cons a r ih=>
   have h1:and a.plain (aR r)=true:=h1
   show and a.plain (aR (r++R.flatten))=true
   cases ha:a.plain with
   |true=>rw [ha] at h1;exact ih h1
   |false=>rw [ha] at h1;cases h1
section
variable {mx:Int} {h0 h h':AH} {S:Nat→Prop} {Q:Option Rs→Prop} {κn:Kt} {κx:Ex→Kt} {v:AV} {rows:List (List AV)} {L:List dm}
theorem apc.at {r:List AV} {x:dm} (o:Old h0 h) (a:apc h0 r x): ∃dv,r=[N64 x.num,N64 x.ty,U64 x.val,dv]∧dq h dv (aS x.dat):=by
 obtain ⟨dv,e,_,l,s⟩:=a
 exact ⟨dv,e,s.frm l o.2⟩
theorem FAt.yY (o:Old h0 h) (ow:OwR h S 4 v rows) (a:eA h0 rows L):FAt h v L:=FAt.of ow a.1 fun i r x hi hx=>(a.2 i r x hi hx).at o
def bI (n:Int) (L:List dm):List dm:=L.filter fun x=>decide ((x.num:Int)=n)
theorem amJ {n1:Nat} {h1:AH} (hn1:n1=h1.length) (o1:Old h0 h1) (ow:OwR h1 S 4 v rows) (a:eA h0 rows L) (hl:L.length≤50000) (n:Int) (v1 v4:AV):
 ∀(R A:List dm) (f:Nat) (hc:AH) (v5 v7 v11 v17:AV) (B:List (List AV)),L=A++R→R.length+2≤f→Old h1 hc→OwR hc (fun b=>n1≤b) 4 v5 B→eA h0 B (bI n A)→
  (∀h' v5 v7 v11 v17 B,Old h1 h'→OwR h' (fun b=>n1≤b) 4 v5 B→eA h0 B (bI n L)→Q (κx (.exit 0) ⟨ey (.int 9223372036854775807 n) v1 v4 v5 v7 v (N64 L.length) (N64 L.length) v11 v17,h'⟩))→
  Q (kcR κn κx ((rl (CL mx) f).lp (abr mx) ⟨ey (.int 9223372036854775807 n) v1 v4 v5 v7 v (N64 L.length) (N64 A.length) v11 v17,hc⟩)):=by
 intro R
 induction R with
 |nil=>
  intro A f hc v5 v7 v11 v17 B hA hf oc ob hB k
  obtain ⟨f,rfl⟩:=fuel hf
  obtain rfl:L=A:=by simpa using hA
  refine iX (zI mx _) ?_
  simp only [sy,List.length_append,Nat.reduceAdd,Nat.reduceMul,Nat.reduceSub,Nat.reduceLeDiff,Nat.reduceEqDiff,Nat.reduceLT,reduceIte,wD,n64,Int.lt_irrefl]
  exact k hc _ _ _ _ B oc ob hB
 |cons x R ih=>
  intro A f hc v5 v7 v11 v17 B hA hf oc ob hB k
  obtain ⟨f,rfl⟩:=fuel hf
  have hlen:L.length=A.length+(R.length+1):=by rw [hA];simp
  have hx:L[A.length]? =some x:=by rw [hA];simp
  have hi:A.length<rows.length:=by rw [a.1];omega
  obtain ⟨r,hr⟩: ∃r,rows[A.length]? =some r:=⟨_,List.getElem?_eq_getElem hi⟩
  obtain ⟨dv,rfl,pdv,ldv,sdv⟩:=a.2 _ r x hr hx
  have owc:OwR hc S 4 v rows:=ow.mono fun b hb hs=>⟨hs,oc.2 b hb⟩
  obtain ⟨b,_,el⟩:=owc.el hr
  obtain ⟨P,hP⟩: ∃P,P=AV.pto b (A.length*4):=⟨_,rfl⟩
  have ix:=el.idx
  have lG:=el.ldG
  rw [←hP] at ix lG
  have hq:aR [N64 x.num,N64 x.ty,U64 x.val,dv]=true:=by
   show and true (and true (and true (and dv.plain true)))=true
   rw [pdv];rfl
  obtain ⟨yF,hyF⟩: ∃y:Nat,y=42+1:=⟨_,rfl⟩
  obtain ⟨H1,hH1⟩: ∃H1,H1=hc++[some (.cells [N64 x.num,N64 x.ty,U64 x.val,dv] yF)]:=⟨_,rfl⟩
  have st: ∀κ:Ka,aK 4 (.pto hc.length 0) (.agg [N64 x.num,N64 x.ty,U64 x.val,dv]) (hc++[some (.cells [.int 9223372036854775807 0,.int 9223372036854775807 0,.int 18446744073709551615 0,.nils] (42+1))]) κ=κ (.tup []) H1:=fun κ=>by rw [hH1,hyF];exact cY rfl rfl hq
  have l1:H1.length=hc.length+1:=by rw [hH1];simp
  have e1:ae H1 hc.length=some (.cells [N64 x.num,N64 x.ty,U64 x.val,dv] yF):=by rw [hH1,aI]
  have e1':=e1
  simp only [n64] at e1'
  have o2:Old h1 H1:=by rw [hH1];exact oc.app _
  have f1: ∀i,i<hc.length→ae H1 i=ae hc i:=fun i hi=>by rw [hH1,aq hi]
  have g1:decide ((A.length:Int)<(L.length:Int))=true:=by rw [decide_eq_true_iff];omega
  have w1:aZ 9223372036854775807 ((A.length:Int)+1)=(((A++[x]).length:Nat):Int):=by rw [bd (by omega) (by omega)];simp
  refine iX (zI mx _) ?_
  refine wEq (wD ..) ?_
  simp only [n64,cmp_eq,iltE,g1,yO]
  refine wEq (af5 ..) ?_
  rw [ix,lG,dC]
  refine wEq (st _) ?_
  have ob1:OwR H1 (fun b=>n1≤b) 4 v5 B:=ob.mono fun b hb hs=>⟨hs,f1 b hb⟩
  by_cases hn:(x.num:Int)=n
  ·have fe:bI n (A++[x])=bI n A++[x]:=by unfold bI;rw [List.filter_append];simp [hn]
   have lf: ∀κ:Ka,aQ 4 (.pto hc.length 0) H1 κ=κ (.agg [N64 x.num,N64 x.ty,U64 x.val,dv]) H1:=fun κ=>bS (n:=4) e1 rfl κ
   have ow3:OwR (H1++[some (.cells [N64 x.num,N64 x.ty,U64 x.val,dv] 0)]) (fun b=>n1≤b) 4 v5 B:=ob1.mono fun b hb hs=>⟨hs,aq hb _⟩
   have hBl:B.length≤L.length:=by rw [hB.1,hlen];unfold bI;have:=List.length_filter_le (fun x:dm=>decide ((x.num:Int)=n)) A;omega
   obtain ⟨v',h2,a1,a2,a3,a4⟩:=ow3.app (42+1) (by_:=48) (by decide) (by decide) (x:=.slo H1.length 0 1 1 4 true) (q:=[N64 x.num,N64 x.ty,U64 x.val,dv]) rfl (ai3 _ rfl H1) rfl hq (by omega)
   rw [List.length_append,l1] at a3
   simp only [List.length_cons,List.length_nil] at a3
   have o21:=o2.1
   have o4:Old h1 h2:=⟨by omega,fun i hi=>by
    rw [a4 i (by omega) (by rw [List.length_append];omega),aq (by omega)]
    exact o2.2 i hi⟩
   have sS: ∀b,(n1≤b∨b=(H1++[some (Blk.cells [N64 x.num,N64 x.ty,U64 x.val,dv] 0)]).length)→n1≤b:=fun b hs=>by
    rcases hs with hs|rfl
    ·exact hs
    ·rw [List.length_append];omega
   simp only [eE,jS,e1',j6,jd,List.getElem?_cons_zero,cmp_eq,qA,decide_eq_true hn,yO,Nat.zero_add]
   refine wEq (lf _) ?_
   refine wEq (amP _ _ _ _ _ _ _) ?_
   refine wEq (a1 _) ?_
   simp only [xa,kK,aep,w1]
   refine ih (A++[x]) (f+(R.length+1+1)) h2 v' _ _ _ (B++[[N64 x.num,N64 x.ty,U64 x.val,dv]]) (by rw [hA];simp) (by omega) o4 (a2.mono fun b _ hs=>⟨sS b hs,rfl⟩) ?_ k
   rw [fe]
   exact hB.app ⟨rfl,fun i r y hi hy=>by
    obtain rfl:i=0:=by have:=(List.getElem?_eq_some_iff.1 hy).1;simpa using this
    simp at hi hy
    subst hi;subst hy
    exact ⟨dv,rfl,pdv,ldv,sdv⟩⟩
  ·have fe:bI n (A++[x])=bI n A:=by unfold bI;rw [List.filter_append];simp [hn]
   simp only [eE,jS,e1',j6,jd,List.getElem?_cons_zero,cmp_eq,qA,decide_eq_false hn,uO,Nat.zero_add,xa,kK,aep,w1]
   exact ih (A++[x]) (f+(R.length+1+1)) H1 v5 _ _ _ B (by rw [hA];simp) (by omega) o2 ob1 (by rw [fe];exact hB) k
theorem nU (o:Old h0 h) (ow:OwR h S 4 v rows) (a:eA h0 rows L) (hl:L.length≤5000) (n:Int) (f:Nat) (hf:6000≤f):
 aG (fun r h'=>Old h h'∧ ∃B,OwR h' (fun b=>h.length≤b) 4 r B∧eA h0 B (bI n L)) ((rl (CL mx) f).run 11 [.int 9223372036854775807 n,v] h):=by
 obtain ⟨f,rfl⟩: ∃g,f=g+1:=⟨f-1,by omega⟩
 refine aG.runs (n:=f) (amK mx _ _ _ _ _) ?_
 have lv: ∀(h':AH) (κ:Ka),bH v h' κ=κ (N64 L.length) h':=fun h' κ=>by rw [ow.bH h' κ,a.1];rfl
 refine wEq (agd ..) ?_
 refine wEq (age ..) ?_
 refine wEq (lv _ _) ?_
 refine amJ (mx:=mx) (n1:=h.length) rfl o ow a (by omega) n _ _ L [] f h .nils _ _ _ [] rfl (by omega) Old.rfl OwR.nil (eA.nil _) fun h' v5 v7 v11 v17 B o2 ow2 a2=>?_
 simp only [adR,decide_true,bqT,ahJ,lV,alS]
 exact Ends.mk ⟨o2,B,ow2,a2⟩
theorem agO (o:Old h0 h) (ow:OwR h S 4 v rows) (a:eA h0 rows L) (hl:L.length≤5000) (n:Int) (f:Nat) (hf:6100≤f):
 aG (fun r h'=>Old h h'∧ ∃q,r= .tup [.agg q,.bool (decide (bI n L≠[]))]∧q.length=4∧aR q=true∧ ∀x,(bI n L).getLast? =some x→apc h0 q x) ((rl (CL mx) f).run 12 [.int 9223372036854775807 n,v] h):=by
 obtain ⟨f,rfl⟩: ∃g,f=g+1:=⟨f-1,by omega⟩
 refine aG.runs (n:=f) (aij mx _ _ _ _ _) ?_
 obtain ⟨yF,hyF⟩: ∃y:Nat,y=42+1:=⟨_,rfl⟩
 obtain ⟨Z,hZ⟩: ∃Z:List AV,Z=[.int 9223372036854775807 0,.int 9223372036854775807 0,.int 18446744073709551615 0,.nils]:=⟨_,rfl⟩
 obtain ⟨H1,hH1⟩: ∃H1,H1=h++[some (.cells Z yF)]:=⟨_,rfl⟩
 have o1:Old h H1:=by rw [hH1];exact Old.rfl.app _
 have l1:H1.length=h.length+1:=by rw [hH1];simp
 have z1:ae H1 h.length=some (.cells Z yF):=by rw [hH1,aI]
 have hyF':=hyF
 simp only [Nat.reduceAdd] at hyF'
 refine wEq (agV ..) ?_
 rw [dC,←hZ,←hyF',←hH1]
 have ow1:OwR H1 S 4 v rows:=ow.mono fun b hb hs=>⟨hs,o1.2 b hb⟩
 refine bE (nU (mx:=mx) (o.trans o1) ow1 a hl n f (by omega)).call ?_
 rintro w h2 ⟨o2,B,owB,aB⟩
 have lw: ∀(h':AH) (κ:Ka),bH w h' κ=κ (.int 9223372036854775807 ((bI n L).length:Int)) h':=fun h' κ=>by rw [owB.bH h' κ,aB.1]
 have o21:=o2.1
 have z2:=(o2.2 h.length (by omega)).trans z1
 have fl:(bI n L).length≤L.length:=by unfold bI;exact List.length_filter_le _ _
 by_cases hz:bI n L=[]
 ·have g0:decide (((bI n L).length:Int)=0)=true:=by rw [decide_eq_true_iff,hz];rfl
  have st: ∀κ:Ka,aK 4 (.pto h.length 0) (.agg Z) h2 κ=κ (.tup []) (h2.set h.length (some (.cells Z yF))):=fun κ=>bU (n:=4) z2 (by rw [hZ];rfl) (by rw [hZ];rfl) (by rw [hZ];rfl) κ
  have ld: ∀κ:Ka,aQ 4 (.pto h.length 0) (h2.set h.length (some (.cells Z yF))) κ=κ (.agg Z) (h2.set h.length (some (.cells Z yF))):=fun κ=>bS (n:=4) (az (by omega) _) (by rw [hZ];rfl) κ
  simp only [lw,cmp_eq,qA,g0,yO,mU]
  refine wEq (st _) ?_
  rw [lV,aaC]
  refine wEq (ld _) ?_
  refine Ends.mk ⟨(o1.trans o2).set (Nat.le_refl _) _,Z,by rw [hz];simp,by rw [hZ];rfl,by rw [hZ];rfl,fun x hx=>by rw [hz] at hx;simp at hx⟩
 ·have hpos:=List.length_pos_iff.2 hz
  have g0:decide (((bI n L).length:Int)=0)=false:=by rw [decide_eq_false_iff_not];omega
  have w1:aZ 9223372036854775807 (((bI n L).length:Int)-1)=(((bI n L).length-1:Nat):Int):=by rw [bd (by omega) (by omega)];omega
  obtain ⟨x,hx⟩: ∃x,(bI n L)[(bI n L).length-1]? =some x:=⟨_,List.getElem?_eq_getElem (by omega)⟩
  obtain ⟨q,hq⟩: ∃q,B[(bI n L).length-1]? =some q:=⟨_,List.getElem?_eq_getElem (by have:=aB.1;omega)⟩
  have hrow:=aB.2 _ q x hq hx
  have q4:=aB.four q (List.mem_of_getElem? hq)
  obtain ⟨b,_,el⟩:=owB.el hq
  obtain ⟨P,hP⟩: ∃P,P=AV.pto b (((bI n L).length-1)*4):=⟨_,rfl⟩
  have ix:=el.idx
  have lG:=el.ldG
  rw [←hP] at ix lG
  have st: ∀κ:Ka,aK 4 (.pto h.length 0) (.agg q) h2 κ=κ (.tup []) (h2.set h.length (some (.cells q yF))):=fun κ=>bU (n:=4) z2 (by rw [hZ];rfl) q4.1 q4.2 κ
  have ld: ∀κ:Ka,aQ 4 (.pto h.length 0) (h2.set h.length (some (.cells q yF))) κ=κ (.agg q) (h2.set h.length (some (.cells q yF))):=fun κ=>bS (n:=4) (az (by omega) _) q4.1 κ
  simp only [lw,cmp_eq,qA,g0,uO,kK,aka,w1,ix,lG]
  refine wEq (st _) ?_
  rw [lV,aaC]
  refine wEq (ld _) ?_
  refine Ends.mk ⟨(o1.trans o2).set (Nat.le_refl _) _,q,by simp [hz],q4.1,q4.2,fun y hy=>?_⟩
  rw [List.getLast?_eq_getElem?,hx] at hy
  cases hy;exact hrow
end
end Go.Proofs.YteapfopaiocpeaaGreatDoor
