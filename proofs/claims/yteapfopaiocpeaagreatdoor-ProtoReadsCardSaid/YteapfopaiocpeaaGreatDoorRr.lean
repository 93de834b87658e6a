/- The document's number of seven bits a byte: its run. The functions' code is printed by a program. -/
import Derived.Test.YteapfopaiocpeaaGreatDoorRq
namespace Go.Proofs.YteapfopaiocpeaaGreatDoor
set_option linter.unusedSimpArgs false
set_option linter.unusedVariables false
set_option linter.unnecessarySimpa false
set_option linter.defProp false
noncomputable section
def cE (v0 v1 v4 v5 v6 v7 v8 v9 v24 v43 v47 v60 v63:AV):Tm:=(.nd 8 (.nd 5 (.nd 1 (.lf 0 v0) (.nd 4 (.lf 1 v1) (.lf 4 v4))) (.nd 6 (.lf 5 v5) (.nd 7 (.lf 6 v6) (.lf 7 v7)))) (.nd 43 (.nd 9 (.lf 8 v8) (.nd 24 (.lf 9 v9) (.lf 24 v24))) (.nd 60 (.nd 47 (.lf 43 v43) (.lf 47 v47)) (.nd 63 (.lf 60 v60) (.lf 63 v63)))))
def abz (mx:Int):K:=kAt [] (kOf (CL mx) 47)
def alU (mx:Int):K:=kAt [1,1,0] (kOf (CL mx) 47)
def alK (mx:Int):K:=kAt [1,1,1] (kOf (CL mx) 47)
def acA (mx:Int):K:=kAt [1,1,0,0,0] (kOf (CL mx) 47)
def acQ (mx:Int):K:=kAt [1,1,1,1,1,1,1,0] (kOf (CL mx) 47)
def tK (mx:Int):K:=kAt [1,1,1,1,1,1,1,1] (kOf (CL mx) 47)
def ach (mx:Int):K:=kAt [1,1,1,1,1,1,1,0,1,0,0] (kOf (CL mx) 47)
section
set_option maxRecDepth 100000
variable (mx:Int) (run:Run) (lp:Lp) (κn:Kt) (κx:Ex→Kt) (h:AH) (v0 v1 v4 v5 v6 v7 v8 v9 v24 v43 v47 v60 v63:AV)
theorem afg:kc (CL mx) run lp (abz mx) ⟨cE v0 v1 v4 v5 v6 v7 v8 v9 v24 v43 v47 v60 v63,h⟩ κn κx=kc (CL mx) run lp (alU mx) ⟨cE v0 v1 (.int 18446744073709551615 0) (.int 9223372036854775807 0) (.int 9223372036854775807 0) (.int 9223372036854775807 0) v8 v9 v24 v43 v47 v60 v63,h⟩ (fun s=>kc (CL mx) run lp (alK mx) s κn κx) κx:=by kernel_rfl
theorem ag3:kc (CL mx) run lp (alU mx) ⟨cE v0 v1 v4 v5 v6 v7 v8 v9 v24 v43 v47 v60 v63,h⟩ κn κx=kcR κn (kcO 0 κn κx) (lp (acA mx) ⟨cE v0 v1 v4 v5 v6 v7 v8 v9 v24 v43 v47 v60 v63,h⟩):=by kernel_rfl
theorem cS:kc (CL mx) run lp (alK mx) ⟨cE v0 v1 v4 v5 v6 v7 v8 v9 v24 v43 v47 v60 v63,h⟩ κn κx=cmp ige v7 (.int 9223372036854775807 9) h (fun a0 h=>ar a0 true (fun κ=>aN v0 h κ) h (fun a1 h=>ar a0 true (fun κ=>bF a1 h κ) h (fun a2 h=>ar a0 true (fun κ=>cmp igt a2 (.int 9223372036854775807 9) h κ) h (fun a3 h=>dh a0 a3 (.bool false) h (fun a4 h=>ar a4 true (fun κ=>aN v0 h κ) h (fun a5 h=>ar a4 true (fun κ=>bL 1 a5 (.int 9223372036854775807 9) h κ) h (fun a6 h=>ar a4 true (fun κ=>ao a6 h κ) h (fun a7 h=>ar a4 true (fun κ=>cmp igt a7 (.int 255 1) h κ) h (fun a8 h=>dh a4 a8 (.bool false) h (fun a9 h=>ar a9 false (fun κ=>aN v7 h κ) h (fun a10 h=>ar a9 false (fun κ=>cmp bP a10 (.int 9223372036854775807 10) h κ) h (fun a11 h=>dh a9 (.bool true) a11 h (fun a12 h=>bn a12 (κx .ret ⟨cE v0 v1 (.int 18446744073709551615 0) (.int 9223372036854775807 0) (.int 9223372036854775807 20) v7 v8 v9 v24 a12 v47 v60 v63,h⟩) (bF v0 h (fun a13 h=>cmp bP v7 a13 h (fun a14 h=>bn a14 (κx .ret ⟨cE v0 v1 (.int 18446744073709551615 0) (.int 9223372036854775807 0) (.int 9223372036854775807 10) v7 v8 v9 v24 a12 a14 v60 v63,h⟩) (cmp igt v7 (.int 9223372036854775807 0) h (fun a15 h=>ar a15 true (fun κ=>aN v0 h κ) h (fun a16 h=>ar a15 true (fun κ=>aN v7 h κ) h (fun a17 h=>ar a15 true (fun κ=>bL 1 a16 a17 h κ) h (fun a18 h=>ar a15 true (fun κ=>ao a18 h κ) h (fun a19 h=>ar a15 true (fun κ=>cmp bP a19 (.int 255 0) h κ) h (fun a20 h=>dh a15 a20 (.bool false) h (fun a21 h=>ar a21 true (fun κ=>aN v1 h κ) h (fun a22 h=>ar a21 true (fun κ=>lD a22 h κ) h (fun a23 h=>dh a21 a23 (.bool false) h (fun a24 h=>bn a24 (κx .ret ⟨cE v0 v1 (.int 18446744073709551615 0) (.int 9223372036854775807 0) (.int 9223372036854775807 21) v7 v8 v9 v24 a12 a14 a24 v63,h⟩) (kc (CL mx) run lp (acQ mx) ⟨cE v0 v1 v4 v5 v6 v7 (.int 18446744073709551615 0) v9 v24 a12 a14 a24 v63,h⟩ (fun s=>kc (CL mx) run lp (tK mx) s κn κx) κx)))))))))))))))))))))))))))):=by kernel_rfl
theorem jY:kc (CL mx) run lp (acA mx) ⟨cE v0 v1 v4 v5 v6 v7 v8 v9 v24 v43 v47 v60 v63,h⟩ κn κx=bF v0 h (fun a0 h=>cmp ilt v7 a0 h (fun a1 h=>ar a1 true (fun κ=>aN v7 h κ) h (fun a2 h=>ar a1 true (fun κ=>cmp ilt a2 (.int 9223372036854775807 10) h κ) h (fun a3 h=>dh a1 a3 (.bool false) h (fun a4 h=>ar a4 true (fun κ=>aN v0 h κ) h (fun a5 h=>ar a4 true (fun κ=>aN v7 h κ) h (fun a6 h=>ar a4 true (fun κ=>bL 1 a5 a6 h κ) h (fun a7 h=>ar a4 true (fun κ=>ao a7 h κ) h (fun a8 h=>ar a4 true (fun κ=>cmp ige a8 (.int 255 128) h κ) h (fun a9 h=>dh a4 a9 (.bool false) h (fun a10 h=>bn a10 (arith dX v7 (.int 9223372036854775807 1) h (fun a11 h=>κn ⟨cE v0 v1 v4 v5 v6 a11 v8 v9 a10 v43 v47 v60 v63,h⟩)) (κx (.exit 0) ⟨cE v0 v1 v4 v5 v6 v7 v8 v9 a10 v43 v47 v60 v63,h⟩)))))))))))):=by kernel_rfl
theorem ahq:kc (CL mx) run lp (acQ mx) ⟨cE v0 v1 v4 v5 v6 v7 v8 v9 v24 v43 v47 v60 v63,h⟩ κn κx=kcR κn (kcO 2 κn κx) (lp (ach mx) ⟨cE v0 v1 v4 v5 v6 v7 v8 v7 v24 v43 v47 v60 v63,h⟩):=by kernel_rfl
theorem agF:kc (CL mx) run lp (tK mx) ⟨cE v0 v1 v4 v5 v6 v7 v8 v9 v24 v43 v47 v60 v63,h⟩ κn κx=arith dX v7 (.int 9223372036854775807 1) h (fun a0 h=>κx .ret ⟨cE v0 v1 v8 a0 (.int 9223372036854775807 0) v7 v8 v9 v24 v43 v47 v60 v63,h⟩):=by kernel_rfl
theorem vz:kc (CL mx) run lp (ach mx) ⟨cE v0 v1 v4 v5 v6 v7 v8 v9 v24 v43 v47 v60 v63,h⟩ κn κx=cmp ige v9 (.int 9223372036854775807 0) h (fun a0 h=>bn a0 (arith pV v8 (.int 18446744073709551615 128) h (fun a1 h=>bL 1 v0 v9 h (fun a2 h=>ao a2 h (fun a3 h=>ac4 a3 (.int 255 128) h (fun a4 h=>cvI 18446744073709551615 a4 h (fun a5 h=>arith dX a1 a5 h (fun a6 h=>arith gU v9 (.int 9223372036854775807 1) h (fun a7 h=>κn ⟨cE v0 v1 v4 v5 v6 v7 a6 a7 v24 v43 v47 v60 a0,h⟩)))))))) (κx (.exit 2) ⟨cE v0 v1 v4 v5 v6 v7 v8 v9 v24 v43 v47 v60 a0,h⟩)):=by kernel_rfl
theorem mq:kcE (CL mx) [.tmp 4,.tmp 5,.tmp 6] ⟨cE v0 v1 v4 v5 v6 v7 v8 v9 v24 v43 v47 v60 v63,h⟩=some (.vh (.tup [v4,v5,v6]) h):=(bH _ _ _).trans (by kernel_rfl)
theorem anQ:cZ (CL mx) 47=some ⟨abz mx,[0,1,4,5,6,7,8,9,24,43,47,60,63],78,[.tmp 4,.tmp 5,.tmp 6]⟩:=by kernel_rfl
end
theorem ajT (mx:Int) (run:Run) (lp:Lp) (x0 x1:AV) (h:AH):cP (CL mx) run lp 47 [x0,x1] h=vhO (kc (CL mx) run lp (abz mx) ⟨cE x0 x1 .bot .bot .bot .bot .bot .bot .bot .bot .bot .bot .bot,h⟩ (kcE (CL mx) [.tmp 4,.tmp 5,.tmp 6]) (kcQ (CL mx) [.tmp 4,.tmp 5,.tmp 6])):=(bI (by kernel_rfl) (anQ mx) (by kernel_rfl)).trans (by kernel_rfl)
theorem pW (mx:Int) (p:List Nat):dY (CL mx) (kAt p (kOf (CL mx) 47)):=iq p (iA (CL mx) 47)
def xI (v0 v2 v3 v4 v5 v6 v7:AV):Tm:=(.nd 4 (.nd 2 (.lf 0 v0) (.nd 3 (.lf 2 v2) (.lf 3 v3))) (.nd 6 (.nd 5 (.lf 4 v4) (.lf 5 v5)) (.nd 7 (.lf 6 v6) (.lf 7 v7))))
def acH (mx:Int):K:=kAt [] (kOf (CL mx) 25)
section
set_option maxRecDepth 100000
variable (mx:Int) (run:Run) (lp:Lp) (κn:Kt) (κx:Ex→Kt) (h:AH) (v0 v2 v3 v4 v5 v6 v7:AV)
theorem ag8:kc (CL mx) run lp (acH mx) ⟨xI v0 v2 v3 v4 v5 v6 v7,h⟩ κn κx=aJ (fun a0 h=>dm 0 a0 h (fun a1 h=>dm 1 a0 h (fun a2 h=>dm 2 a0 h (fun a3 h=>cmp bP a3 (.int 9223372036854775807 0) h (fun a4 h=>κx .ret ⟨xI v0 a1 a2 a4 a1 a2 a3,h⟩))))) (aE (CL mx) run 47 [v0,(.bool true)] h):=by kernel_rfl
theorem aim:kcE (CL mx) [.tmp 2,.tmp 3,.tmp 4] ⟨xI v0 v2 v3 v4 v5 v6 v7,h⟩=some (.vh (.tup [v2,v3,v4]) h):=(bH _ _ _).trans (by kernel_rfl)
theorem am2:cZ (CL mx) 25=some ⟨acH mx,[0,2,3,4,5,6,7],18,[.tmp 2,.tmp 3,.tmp 4]⟩:=by kernel_rfl
end
theorem akC (mx:Int) (run:Run) (lp:Lp) (x0:AV) (h:AH):cP (CL mx) run lp 25 [x0] h=vhO (kc (CL mx) run lp (acH mx) ⟨xI x0 .bot .bot .bot .bot .bot .bot,h⟩ (kcE (CL mx) [.tmp 2,.tmp 3,.tmp 4]) (kcQ (CL mx) [.tmp 2,.tmp 3,.tmp 4])):=(bI (by kernel_rfl) (am2 mx) (by kernel_rfl)).trans (by kernel_rfl)
end
def lead:Nat→List Nat→Nat
 |0,_=>0
 |_,[]=>0
 |k+1,c::r=>if 128≤c then lead k r+1 else 0
def lv:List Nat→Nat
 |[]=>0
 |c::r=>c%128+128*lv r
theorem aed: ∀(k:Nat) (l:List Nat),lead k l≤l.length∧lead k l≤k
 |0,l=>by simp [lead]
 |k+1,[]=>by simp [lead]
 |k+1,c::r=>by
  have:=aed k r
  unfold lead
  split<;>simp<;>omega
theorem zD: ∀(k:Nat) (l:List Nat) (i:Nat),i<lead k l→ ∃c,l[i]? =some c∧128≤c
 |0,l,i,h=>by simp [lead] at h
 |k+1,[],i,h=>by simp [lead] at h
 |k+1,c::r,i,h=>by
  unfold lead at h
  split at h
  ·rename_i hc
   cases i with
   |zero=>exact ⟨c,rfl,hc⟩
   |succ i=>exact zD k r i (by omega)
  ·omega
theorem wQ: ∀(l:List Nat) (acc cnt:Nat),cnt≤9→aZ acc cnt l=
 if 9≤cnt+lead (10-cnt) l∧(∃x,l[9-cnt]? =some x∧1<x) then (20,0,0) else if lead (10-cnt) l=l.length then (10,0,0) else (0,acc+lv (l.take (lead (10-cnt) l+1))*128^cnt,cnt+lead (10-cnt) l+1)
 |[],acc,cnt,h=>by
  rw [if_neg (by rintro ⟨_,x,hx,_⟩;simp at hx)]
  have:lead (10-cnt) []=0:=by cases 10-cnt<;>rfl
  rw [if_pos (by rw [this];rfl)];rfl
 |c::r,acc,cnt,h=>by
  obtain ⟨k,hk⟩: ∃k,10-cnt=k+1:=⟨9-cnt,by omega⟩
  have hl:lead (10-cnt) (c::r)=if 128≤c then lead k r+1 else 0:=by rw [hk];rfl
  unfold aZ
  by_cases h1:cnt=9∧1<c
  ·rw [if_pos h1,if_pos]
   obtain ⟨rfl,h1⟩:=h1
   exact ⟨by omega,c,rfl,h1⟩
  ·rw [if_neg h1]
   by_cases h2:c<128
   ·rw [if_pos h2]
    rw [if_neg (by omega)] at hl
    rw [hl,if_neg,if_neg (by simp)]
    ·simp [lv]
    ·rintro ⟨a,x,hx,hx1⟩
     obtain rfl:cnt=9:=by omega
     simp at hx
     subst hx
     exact h1 ⟨rfl,hx1⟩
   ·rw [if_neg h2]
    have hc9:cnt≤8:=by omega
    rw [if_pos (by omega)] at hl
    have hk':10-(cnt+1)=k:=by omega
    have ih:=wQ r (acc+c%128*128^cnt) (cnt+1) (by omega)
    rw [hk'] at ih
    rw [ih,hl]
    have e9:(c::r)[9-cnt]? =r[9-(cnt+1)]? :=by rw [show 9-cnt=(9-(cnt+1))+1 by omega,List.getElem?_cons_succ]
    rw [e9,show cnt+(lead k r+1)=cnt+1+lead k r by omega]
    have e3:(lead k r+1=(c::r).length)=(lead k r=r.length):=by simp
    simp only [e3]
    split
    ·rfl
    ·split
     ·rfl
     ·rw [List.take_succ_cons]
      show _=(0,acc+(c%128+128*lv (r.take (lead k r+1)))*128^cnt,_)
      rw [Nat.add_mul,Nat.pow_succ,Nat.mul_comm 128,←Nat.add_assoc]
      congr 3
      rw [Nat.mul_assoc,Nat.mul_comm 128]
theorem ap1: ∀l:List Nat,lv l<128^l.length
 |[]=>by simp [lv]
 |c::r=>by
  have:=ap1 r
  unfold lv
  rw [List.length_cons,Nat.pow_succ]
  omega
theorem aeE (x:Nat): ∀l:List Nat,lv (l++[x])=lv l+128^l.length*(x%128)
 |[]=>by simp [lv]
 |c::r=>by
  show c%128+128*lv (r++[x])=c%128+128*lv r+128^(r.length+1)*(x%128)
  rw [aeE x r,Nat.pow_succ,Nat.mul_add,Nat.mul_comm (128^r.length) 128,Nat.mul_assoc]
  omega
theorem anN (l:List Nat): ∀j:Nat,lv (l.drop j)≤lv l:=by
 intro j
 induction j generalizing l with
 |zero=>simp
 |succ j ih=>
  cases l with
  |nil=>simp
  |cons c r=>
   rw [List.drop_succ_cons]
   have:=ih r
   show lv (r.drop j)≤c%128+128*lv r
   omega
section
variable {mx:Int} {h:AH} {Q:Option Rs→Prop} {κn:Kt} {κx:Ex→Kt} {d:AV} {bs:List Nat}
theorem bAt {i c:Nat} (hd:cY h d (aR bs)) (hc:bs[i]? =some c): ∃p,(∀κ:Ka,bL 1 d (.int 9223372036854775807 (i:Int)) h κ=κ p h)∧ ∀κ:Ka,ao p h κ=κ (.int 255 (c:Int)) h:=by
 obtain ⟨p,p1,p2,p3⟩:=hd.idx (i:=i) (c:=.int 255 (c:Int)) (by unfold aR;rw [List.getElem?_map,hc];rfl)
 exact ⟨p,p2 _,p3⟩
theorem afD (hd:cY h d (aR bs)) (hb:bs.length≤1000000) (v1 v4 v5 v6 v8 v9 v43 v47 v60 v63:AV): ∀(k i f:Nat) (v24:AV),i+k=10→i≤bs.length→k+2≤f→
 Q (κx (.exit 0) ⟨cE d v1 v4 v5 v6 (.int 9223372036854775807 ((i+lead k (bs.drop i):Nat):Int)) v8 v9 (.bool false) v43 v47 v60 v63,h⟩)→
 Q (kcR κn κx ((rl (CL mx) f).lp (acA mx) ⟨cE d v1 v4 v5 v6 (.int 9223372036854775807 (i:Int)) v8 v9 v24 v43 v47 v60 v63,h⟩)):=by
 have hlen:=fun h κ=>hd.bF h κ
 rw [bg] at hlen
 intro k
 induction k with
 |zero=>
  intro i f v24 hi hl hf q
  obtain ⟨f,rfl⟩:=fuel hf
  obtain rfl:i=10:=by omega
  have d10:decide (((10:Nat):Int)<10)=false:=by decide
  refine fm (pW mx _) ?_
  simp only [lead] at q
  by_cases hlt:10<bs.length
  ·have d1:decide (((10:Nat):Int)<(bs.length:Int))=true:=by rw [decide_eq_true_iff];omega
   simp only [sy,List.length_append,Nat.reduceAdd,Nat.reduceMul,Nat.reduceSub,Nat.reduceLeDiff,Nat.reduceEqDiff,Nat.reduceLT,reduceIte,jY,hlen,d1,d10]
   exact q
  ·have d1:decide (((10:Nat):Int)<(bs.length:Int))=false:=by rw [decide_eq_false_iff_not];omega
   simp only [sy,List.length_append,Nat.reduceAdd,Nat.reduceMul,Nat.reduceSub,Nat.reduceLeDiff,Nat.reduceEqDiff,Nat.reduceLT,reduceIte,jY,hlen,d1]
   exact q
 |succ k ih=>
  intro i f v24 hi hl hf q
  obtain ⟨f,rfl⟩:=fuel hf
  have d10:decide ((i:Int)<10)=true:=by rw [decide_eq_true_iff];omega
  refine fm (pW mx _) ?_
  cases hc:bs[i]? with
  |none=>
   have hge:=List.getElem?_eq_none_iff.1 hc
   have d1:decide ((i:Int)<(bs.length:Int))=false:=by rw [decide_eq_false_iff_not];omega
   have hz:bs.drop i=[]:=List.drop_eq_nil_iff.2 hge
   rw [hz] at q
   simp only [sy,List.length_append,Nat.reduceAdd,Nat.reduceMul,Nat.reduceSub,Nat.reduceLeDiff,Nat.reduceEqDiff,Nat.reduceLT,reduceIte,jY,hlen,d1]
   exact q
  |some c=>
   have hlt:=(List.getElem?_eq_some_iff.1 hc).1
   have d1:decide ((i:Int)<(bs.length:Int))=true:=by rw [decide_eq_true_iff];omega
   obtain ⟨p,p2,p3⟩:=bAt hd hc
   have hdr:bs.drop i=c::bs.drop (i+1):=by rw [List.drop_eq_getElem_cons hlt,(List.getElem?_eq_some_iff.1 hc).2]
   rw [hdr] at q
   by_cases hs:128≤c
   ·have d2:decide ((c:Int)≥128)=true:=by rw [decide_eq_true_iff];omega
    have d2':decide ((128:Int)≤(c:Int))=true:=by rw [decide_eq_true_iff];omega
    have w:aM 9223372036854775807 ((i:Int)+1)=((i+1:Nat):Int):=by rw [aT (by omega) (by omega)];push_cast;rfl
    have:=ih (i+1) (f+(k+2)) (.bool true) (by omega) (by omega) (by omega)
    rw [show i+1+lead k (bs.drop (i+1))=i+lead (k+1) (c::bs.drop (i+1)) by show _=i+(if 128≤c then lead k (bs.drop (i+1))+1 else 0);rw [if_pos hs];omega] at this
    simp only [sy,List.length_append,Nat.reduceAdd,Nat.reduceMul,Nat.reduceSub,Nat.reduceLeDiff,Nat.reduceEqDiff,Nat.reduceLT,reduceIte,jY,hlen,d1,d10,p2,p3,d2,d2',w]
    exact this q
   ·have d2:decide ((c:Int)≥128)=false:=by rw [decide_eq_false_iff_not];omega
    have d2':decide ((128:Int)≤(c:Int))=false:=by rw [decide_eq_false_iff_not];omega
    have hle:lead (k+1) (c::bs.drop (i+1))=0:=if_neg hs
    rw [hle] at q
    simp only [sy,List.length_append,Nat.reduceAdd,Nat.reduceMul,Nat.reduceSub,Nat.reduceLeDiff,Nat.reduceEqDiff,Nat.reduceLT,reduceIte,jY,hlen,d1,d10,p2,p3,d2,d2']
    exact q
theorem agr (hd:cY h d (aR bs)) (l:List Nat) (hl:l=bs.take l.length) (hc: ∀c∈bs,c<256) (hv:lv l≤18446744073709551615) (v1 v4 v5 v6 v7 v24 v43 v47 v60:AV): ∀(j f:Nat) (v63:AV),j≤l.length→j≤1000→j+2≤f→
 Q (κx (.exit 2) ⟨cE d v1 v4 v5 v6 v7 (.int 18446744073709551615 (lv l:Int)) (.int 9223372036854775807 (-1)) v24 v43 v47 v60 (.bool false),h⟩)→
 Q (kcR κn κx ((rl (CL mx) f).lp (ach mx) ⟨cE d v1 v4 v5 v6 v7 (.int 18446744073709551615 (lv (l.drop j):Int)) (.int 9223372036854775807 ((j:Int)-1)) v24 v43 v47 v60 v63,h⟩)):=by
 intro j
 induction j with
 |zero=>
  intro f v63 hj hj2 hf q
  obtain ⟨f,rfl⟩:=fuel hf
  have d1:decide ((0:Int)≤ -1)=false:=by decide
  have d1':decide ((-1:Int)≥0)=false:=by decide
  refine fm (pW mx _) ?_
  rw [show ((0:Nat):Int)-1= -1 from rfl]
  simp only [sy,List.length_append,Nat.reduceAdd,Nat.reduceMul,Nat.reduceSub,Nat.reduceLeDiff,Nat.reduceEqDiff,Nat.reduceLT,reduceIte,vz,d1,d1']
  exact q
 |succ j ih=>
  intro f v63 hj hj2 hf q
  obtain ⟨f,rfl⟩:=fuel hf
  have d1:decide ((0:Int)≤(j:Int))=true:=by rw [decide_eq_true_iff];omega
  have d1':decide ((j:Int)≥0)=true:=by rw [decide_eq_true_iff];omega
  refine fm (pW mx _) ?_
  rw [show ((j+1:Nat):Int)-1=(j:Int) by omega]
  obtain ⟨c,hcl⟩: ∃c,l[j]? =some c:=⟨_,List.getElem?_eq_getElem (by omega)⟩
  have hcb:bs[j]? =some c:=by
   rw [hl,List.getElem?_take_of_lt (by omega)] at hcl;exact hcl
  have hc256:=hc c (List.mem_of_getElem? hcb)
  obtain ⟨p,p2,p3⟩:=bAt hd hcb
  have hdr:l.drop j=c::l.drop (j+1):=by rw [List.drop_eq_getElem_cons (by omega),(List.getElem?_eq_some_iff.1 hcl).2]
  have hlv:lv (l.drop j)=c%128+128*lv (l.drop (j+1)):=by rw [hdr];rfl
  have hle:=anN l j
  have r1:abS (c:Int) 128=((c%128:Nat):Int):=zE c 128
  have d128:decide ((128:Int)≠0)=true:=by decide
  have w0:aM 255 ((c%128:Nat):Int)=((c%128:Nat):Int):=bE (by omega)
  have w1:aM 18446744073709551615 ((c%128:Nat):Int)=((c%128:Nat):Int):=bE (by omega)
  have w2:aM 18446744073709551615 ((lv (l.drop (j+1)):Int)*128)=((lv (l.drop (j+1))*128:Nat):Int):=by
   rw [show (lv (l.drop (j+1)):Int)*128=((lv (l.drop (j+1))*128:Nat):Int) by push_cast;rfl,bE (by omega)]
  have w3:aM 18446744073709551615 (((lv (l.drop (j+1))*128:Nat):Int)+((c%128:Nat):Int))=((lv (l.drop j):Nat):Int):=by
   rw [show ((lv (l.drop (j+1))*128:Nat):Int)+((c%128:Nat):Int)=((lv (l.drop j):Nat):Int) by rw [hlv];push_cast;omega,bE (by omega)]
  have w4:aM 9223372036854775807 ((j:Int)-1)=(j:Int)-1:=aT (by omega) (by omega)
  have:=ih (f+(j+2)) (.bool true) (by omega) (by omega) (by omega) q
  simp only [sy,List.length_append,Nat.reduceAdd,Nat.reduceMul,Nat.reduceSub,Nat.reduceLeDiff,Nat.reduceEqDiff,Nat.reduceLT,reduceIte,vz,d1,d1',p2,p3,r1,d128,w0,w1,w2,w3,w4]
  exact this
theorem agO (hd:cY h d (aR bs)) (hb:bs.length≤1000000) (hc: ∀c∈bs,c<256) (f:Nat):aC (fun r h'=>r= .tup [U64 (aZ 0 0 bs).2.1,N64 (aZ 0 0 bs).2.2,N64 (aZ 0 0 bs).1]∧h'=h) ((rl (CL mx) (f+30)).run 47 [d,.bool true] h):=by
 refine aC.runs (n:=f+29) (ajT mx _ _ _ _ _) ?_
 have hlen:=fun h κ=>hd.bF h κ
 rw [bg] at hlen
 refine wEq (afg ..) ?_
 refine wEq (ag3 ..) ?_
 refine afD hd hb _ _ _ _ _ _ _ _ _ _ 10 0 (f+29) .bot (by omega) (by omega) (by omega) ?_
 rw [List.drop_zero,Nat.zero_add]
 have hdl:=wQ bs 0 0 (by omega)
 simp only [Nat.sub_zero,Nat.zero_add,Nat.pow_zero,Nat.mul_one] at hdl
 obtain ⟨m1,m2⟩:=aed 10 bs
 have mg:=zD 10 bs
 generalize hM:lead 10 bs=M at*
 simp only [vB,decide_true,bqT]
 by_cases hC:9≤M∧ ∃x,bs[9]? =some x∧1<x
 ·rw [if_pos hC] at hdl
  rw [hdl]
  obtain ⟨h9,x,hx,hx1⟩:=hC
  have hlt:=(List.getElem?_eq_some_iff.1 hx).1
  obtain ⟨p,p2,p3⟩:=bAt hd hx
  have p2: ∀κ:Ka,bL 1 d (.int 9223372036854775807 9) h κ=κ p h:=p2
  have d1:decide ((M:Int)≥9)=true:=by rw [decide_eq_true_iff];omega
  have d2:decide ((bs.length:Int)>9)=true:=by rw [decide_eq_true_iff];omega
  have d3:decide ((x:Int)>1)=true:=by rw [decide_eq_true_iff];omega
  have d1':decide (9≤(M:Int))=true:=by rw [decide_eq_true_iff];omega
  have d2':decide (9<(bs.length:Int))=true:=by rw [decide_eq_true_iff];omega
  have d3':decide (1<(x:Int))=true:=by rw [decide_eq_true_iff];omega
  simp only [sy,List.length_append,Nat.reduceAdd,Nat.reduceMul,Nat.reduceSub,Nat.reduceLeDiff,Nat.reduceEqDiff,Nat.reduceLT,reduceIte,cS,hlen,d1,d2,p2,p3,d3,d1',d2',d3',mq]
  exact Ends.mk ⟨rfl,rfl⟩
 ·rw [if_neg hC] at hdl
  have hM9:M≤9:=by
   rcases Nat.lt_or_ge M 10 with h|h
   ·omega
   ·obtain ⟨c,hc9,hc1⟩:=mg 9 (by omega)
    exact absurd ⟨by omega,c,hc9,by omega⟩ hC
  have d10:decide ((M:Int)=10)=false:=by rw [decide_eq_false_iff_not];omega
  have hv:M≠bs.length→lv (bs.take (M+1))≤18446744073709551615:=fun hE=>by
   obtain ⟨x,hx⟩: ∃x,bs[M]? =some x:=⟨_,List.getElem?_eq_getElem (by omega)⟩
   have htk:bs.take (M+1)=bs.take M++[x]:=by rw [List.take_add_one,hx];rfl
   rw [htk,aeE]
   have h1:=ap1 (bs.take M)
   rw [List.length_take,Nat.min_eq_left (by omega)] at h1 ⊢
   rcases Nat.lt_or_ge M 9 with h9|h9
   ·have hp:128^M≤128^8:=Nat.pow_le_pow_right (by omega) (by omega)
    have:128^M*(x%128)≤128^8*127:=Nat.mul_le_mul hp (by omega)
    have e8:128^8=72057594037927936:=by decide
    omega
   ·obtain rfl:M=9:=by omega
    have hx1:x≤1:=by
     rcases Nat.lt_or_ge 1 x with h|h
     ·exact absurd ⟨by omega,x,hx,h⟩ hC
     ·exact h
    have e9:128^9=9223372036854775808:=by decide
    rw [e9] at h1 ⊢
    have:x%128≤1:=by omega
    omega
  have fin:M≠bs.length→ ∀(v4 v5 v6 v9 v24 v43 v47 v60 v63:AV),Ends (fun r h'=>r= .tup [U64 (aZ 0 0 bs).2.1,N64 (aZ 0 0 bs).2.2,N64 (aZ 0 0 bs).1]∧h'=h) (kc (CL mx) (rl (CL mx) (f+29)).run (rl (CL mx) (f+29)).lp (acQ mx) ⟨cE d (.bool true) v4 v5 v6 (.int 9223372036854775807 (M:Int)) (.int 18446744073709551615 0) v9 v24 v43 v47 v60 v63,h⟩ (fun s=>kc (CL mx) (rl (CL mx) (f+29)).run (rl (CL mx) (f+29)).lp (tK mx) s (kcE (CL mx) [.tmp 4,.tmp 5,.tmp 6]) (kcQ (CL mx) [.tmp 4,.tmp 5,.tmp 6])) (kcQ (CL mx) [.tmp 4,.tmp 5,.tmp 6])):=by
   intro hE v4 v5 v6 v9 v24 v43 v47 v60 v63
   rw [if_neg hE] at hdl
   have hMl:M<bs.length:=by omega
   have hll:(bs.take (M+1)).length=M+1:=by rw [List.length_take];omega
   refine wEq (ahq ..) ?_
   have:=agr (mx:=mx) (Q:=Ends (fun r h'=>r= .tup [U64 (aZ 0 0 bs).2.1,N64 (aZ 0 0 bs).2.2,N64 (aZ 0 0 bs).1]∧h'=h)) (κn:=fun s=>kc (CL mx) (rl (CL mx) (f+29)).run (rl (CL mx) (f+29)).lp (tK mx) s (kcE (CL mx) [.tmp 4,.tmp 5,.tmp 6]) (kcQ (CL mx) [.tmp 4,.tmp 5,.tmp 6])) (κx:=kcO 2 (fun s=>kc (CL mx) (rl (CL mx) (f+29)).run (rl (CL mx) (f+29)).lp (tK mx) s (kcE (CL mx) [.tmp 4,.tmp 5,.tmp 6]) (kcQ (CL mx) [.tmp 4,.tmp 5,.tmp 6])) (kcQ (CL mx) [.tmp 4,.tmp 5,.tmp 6])) hd (bs.take (M+1)) (by rw [hll]) hc (hv hE) (.bool true) v4 v5 v6 (.int 9223372036854775807 (M:Int)) v24 v43 v47 v60 (M+1) (f+29) v63 (by omega) (by omega) (by omega) ?_
   ·rw [show lv ((bs.take (M+1)).drop (M+1))=0 by rw [List.drop_eq_nil_iff.2 (by omega)];rfl,show ((M+1:Nat):Int)-1=(M:Int) by omega,show ((0:Nat):Int)=0 from rfl] at this
    exact this
   ·have w:aM 9223372036854775807 ((M:Int)+1)=((M+1:Nat):Int):=by rw [aT (by omega) (by omega)];push_cast;rfl
    simp only [sy,List.length_append,Nat.reduceAdd,Nat.reduceMul,Nat.reduceSub,Nat.reduceLeDiff,Nat.reduceEqDiff,Nat.reduceLT,reduceIte,agF,mq,w]
    refine Ends.mk ⟨?_,rfl⟩
    rw [hdl];rfl
  have t1:M<9∨(9≤M∧bs.length≤9)∨(9≤M∧9<bs.length):=by omega
  rcases t1 with ta|ta|ta
  ·have d1:decide ((M:Int)≥9)=false:=by rw [decide_eq_false_iff_not];omega
   have d1':decide (9≤(M:Int))=false:=by rw [decide_eq_false_iff_not];omega
   by_cases hE:M=bs.length
   ·rw [if_pos hE] at hdl
    rw [hdl]
    have d4:decide ((M:Int)=(bs.length:Int))=true:=by rw [decide_eq_true_iff];omega
    simp only [sy,List.length_append,Nat.reduceAdd,Nat.reduceMul,Nat.reduceSub,Nat.reduceLeDiff,Nat.reduceEqDiff,Nat.reduceLT,reduceIte,cS,hlen,d1,d1',d10,d4,mq]
    exact Ends.mk ⟨rfl,rfl⟩
   ·have d4:decide ((M:Int)=(bs.length:Int))=false:=by rw [decide_eq_false_iff_not];omega
    obtain ⟨y,hy⟩: ∃y,bs[M]? =some y:=⟨_,List.getElem?_eq_getElem (by omega)⟩
    obtain ⟨r,r2,r3⟩:=bAt hd hy
    by_cases h0:(M:Int)>0
    ·have h0':decide (0<(M:Int))=true:=by rw [decide_eq_true_iff];omega
     by_cases hy0:(y:Int)=0
     ·simp only [sy,List.length_append,Nat.reduceAdd,Nat.reduceMul,Nat.reduceSub,Nat.reduceLeDiff,Nat.reduceEqDiff,Nat.reduceLT,reduceIte,cS,hlen,d1,d1',d10,d4,decide_eq_true h0,h0',r2,r3,decide_eq_true hy0]
      exact fin hE _ _ _ _ _ _ _ _ _
     ·simp only [sy,List.length_append,Nat.reduceAdd,Nat.reduceMul,Nat.reduceSub,Nat.reduceLeDiff,Nat.reduceEqDiff,Nat.reduceLT,reduceIte,cS,hlen,d1,d1',d10,d4,decide_eq_true h0,h0',r2,r3,decide_eq_false hy0]
      exact fin hE _ _ _ _ _ _ _ _ _
    ·have h0':decide (0<(M:Int))=false:=by rw [decide_eq_false_iff_not];omega
     simp only [sy,List.length_append,Nat.reduceAdd,Nat.reduceMul,Nat.reduceSub,Nat.reduceLeDiff,Nat.reduceEqDiff,Nat.reduceLT,reduceIte,cS,hlen,d1,d1',d10,d4,decide_eq_false h0,h0']
     exact fin hE _ _ _ _ _ _ _ _ _
  ·have d1:decide ((M:Int)≥9)=true:=by rw [decide_eq_true_iff];omega
   have d1':decide (9≤(M:Int))=true:=by rw [decide_eq_true_iff];omega
   have d2:decide ((bs.length:Int)>9)=false:=by rw [decide_eq_false_iff_not];omega
   have d2':decide (9<(bs.length:Int))=false:=by rw [decide_eq_false_iff_not];omega
   by_cases hE:M=bs.length
   ·rw [if_pos hE] at hdl
    rw [hdl]
    have d4:decide ((M:Int)=(bs.length:Int))=true:=by rw [decide_eq_true_iff];omega
    simp only [sy,List.length_append,Nat.reduceAdd,Nat.reduceMul,Nat.reduceSub,Nat.reduceLeDiff,Nat.reduceEqDiff,Nat.reduceLT,reduceIte,cS,hlen,d1,d1',d2,d2',d10,d4,mq]
    exact Ends.mk ⟨rfl,rfl⟩
   ·have d4:decide ((M:Int)=(bs.length:Int))=false:=by rw [decide_eq_false_iff_not];omega
    obtain ⟨y,hy⟩: ∃y,bs[M]? =some y:=⟨_,List.getElem?_eq_getElem (by omega)⟩
    obtain ⟨r,r2,r3⟩:=bAt hd hy
    by_cases h0:(M:Int)>0
    ·have h0':decide (0<(M:Int))=true:=by rw [decide_eq_true_iff];omega
     by_cases hy0:(y:Int)=0
     ·simp only [sy,List.length_append,Nat.reduceAdd,Nat.reduceMul,Nat.reduceSub,Nat.reduceLeDiff,Nat.reduceEqDiff,Nat.reduceLT,reduceIte,cS,hlen,d1,d1',d2,d2',d10,d4,decide_eq_true h0,h0',r2,r3,decide_eq_true hy0]
      exact fin hE _ _ _ _ _ _ _ _ _
     ·simp only [sy,List.length_append,Nat.reduceAdd,Nat.reduceMul,Nat.reduceSub,Nat.reduceLeDiff,Nat.reduceEqDiff,Nat.reduceLT,reduceIte,cS,hlen,d1,d1',d2,d2',d10,d4,decide_eq_true h0,h0',r2,r3,decide_eq_false hy0]
      exact fin hE _ _ _ _ _ _ _ _ _
    ·have h0':decide (0<(M:Int))=false:=by rw [decide_eq_false_iff_not];omega
     simp only [sy,List.length_append,Nat.reduceAdd,Nat.reduceMul,Nat.reduceSub,Nat.reduceLeDiff,Nat.reduceEqDiff,Nat.reduceLT,reduceIte,cS,hlen,d1,d1',d2,d2',d10,d4,decide_eq_false h0,h0']
     exact fin hE _ _ _ _ _ _ _ _ _
  ·have d1:decide ((M:Int)≥9)=true:=by rw [decide_eq_true_iff];omega
   have d1':decide (9≤(M:Int))=true:=by rw [decide_eq_true_iff];omega
   have d2:decide ((bs.length:Int)>9)=true:=by rw [decide_eq_true_iff];omega
   have d2':decide (9<(bs.length:Int))=true:=by rw [decide_eq_true_iff];omega
   obtain ⟨x,hx⟩: ∃x,bs[9]? =some x:=⟨_,List.getElem?_eq_getElem (by omega)⟩
   obtain ⟨p,p2,p3⟩:=bAt hd hx
   have p2: ∀κ:Ka,bL 1 d (.int 9223372036854775807 9) h κ=κ p h:=p2
   have hx1: ¬1<x:=fun c=>hC ⟨by omega,x,hx,c⟩
   have d3:decide ((x:Int)>1)=false:=by rw [decide_eq_false_iff_not];omega
   have d3':decide (1<(x:Int))=false:=by rw [decide_eq_false_iff_not];omega
   by_cases hE:M=bs.length
   ·rw [if_pos hE] at hdl
    rw [hdl]
    have d4:decide ((M:Int)=(bs.length:Int))=true:=by rw [decide_eq_true_iff];omega
    simp only [sy,List.length_append,Nat.reduceAdd,Nat.reduceMul,Nat.reduceSub,Nat.reduceLeDiff,Nat.reduceEqDiff,Nat.reduceLT,reduceIte,cS,hlen,d1,d1',d2,d2',p2,p3,d3,d3',d10,d4,mq]
    exact Ends.mk ⟨rfl,rfl⟩
   ·have d4:decide ((M:Int)=(bs.length:Int))=false:=by rw [decide_eq_false_iff_not];omega
    obtain ⟨y,hy⟩: ∃y,bs[M]? =some y:=⟨_,List.getElem?_eq_getElem (by omega)⟩
    obtain ⟨r,r2,r3⟩:=bAt hd hy
    by_cases h0:(M:Int)>0
    ·have h0':decide (0<(M:Int))=true:=by rw [decide_eq_true_iff];omega
     by_cases hy0:(y:Int)=0
     ·simp only [sy,List.length_append,Nat.reduceAdd,Nat.reduceMul,Nat.reduceSub,Nat.reduceLeDiff,Nat.reduceEqDiff,Nat.reduceLT,reduceIte,cS,hlen,d1,d1',d2,d2',p2,p3,d3,d3',d10,d4,decide_eq_true h0,h0',r2,r3,decide_eq_true hy0]
      exact fin hE _ _ _ _ _ _ _ _ _
     ·simp only [sy,List.length_append,Nat.reduceAdd,Nat.reduceMul,Nat.reduceSub,Nat.reduceLeDiff,Nat.reduceEqDiff,Nat.reduceLT,reduceIte,cS,hlen,d1,d1',d2,d2',p2,p3,d3,d3',d10,d4,decide_eq_true h0,h0',r2,r3,decide_eq_false hy0]
      exact fin hE _ _ _ _ _ _ _ _ _
    ·have h0':decide (0<(M:Int))=false:=by rw [decide_eq_false_iff_not];omega
     simp only [sy,List.length_append,Nat.reduceAdd,Nat.reduceMul,Nat.reduceSub,Nat.reduceLeDiff,Nat.reduceEqDiff,Nat.reduceLT,reduceIte,cS,hlen,d1,d1',d2,d2',p2,p3,d3,d3',d10,d4,decide_eq_false h0,h0']
     exact fin hE _ _ _ _ _ _ _ _ _
theorem tU (hd:cY h d (aR bs)) (hb:bs.length≤1000000) (hc: ∀c∈bs,c<256) (f:Nat):aC (fun r h'=>r= .tup [U64 (aZ 0 0 bs).2.1,N64 (aZ 0 0 bs).2.2,.bool (decide ((aZ 0 0 bs).1=0))]∧h'=h) ((rl (CL mx) (f+31)).run 25 [d] h):=by
 refine aC.runs (n:=f+30) (akC mx _ _ _ _) ?_
 refine wEq (ag8 ..) ?_
 refine bG (agO (mx:=mx) hd hb hc f).call ?_
 rintro r h' ⟨rfl,rfl⟩
 have e:decide ((((aZ 0 0 bs).1:Nat):Int)=0)=decide ((aZ 0 0 bs).1=0):=by
  by_cases c:(aZ 0 0 bs).1=0
  ·rw [decide_eq_true c,decide_eq_true_iff];omega
  ·rw [decide_eq_false c,decide_eq_false_iff_not];omega
 simp only [sy,List.length_append,Nat.reduceAdd,Nat.reduceMul,Nat.reduceSub,Nat.reduceLeDiff,Nat.reduceEqDiff,Nat.reduceLT,reduceIte,n64,e,aim]
 exact Ends.mk ⟨rfl,rfl⟩
end
end Go.Proofs.YteapfopaiocpeaaGreatDoor
