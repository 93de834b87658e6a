/- Any order, ranges over maps, code, runs: what a run of the evaluator answers the program answers. -/
import Derived.Test.YteapfopaiocpeaaGreatDoorMC
import Derived.Scope
import Derived.Maps.RangeRun
import Derived.RangeFuncRecord
import Derived.RangeFuncIn
import Derived.RangeFuncCalls
import Derived.TacticsIn
import Derived.RangeFuncLeaves
import Derived.RangeFuncOwn
namespace Go.Proofs.YteapfopaiocpeaaGreatDoor
set_option linter.unusedSimpArgs false
set_option linter.unusedVariables false
set_option linter.unnecessarySimpa false
section
variable {P:Program} {C:Cx} {ok:Nat→Prop} {w:World} {ρ:Rho} {h:AH} {rs:Rs} {run:Run}
noncomputable def dE (C:Cx) (l:List Oper) (tr:List Tr) (h0:AH):DE where
 N:=l.length
 hp:=hpT h0 tr
 nw j:=mkB C (l.getD j default).op
 ef j:=dW C (l.getD j default).op
 hid j:=dJ tr (gJ C l (bM l) j)
 B j i:=((bM l).getD j 0).testBit i=true
theorem acW {o:Op} (h:mkB C o=true):dW C o=false:=by
 cases o<;>first|rfl|(cases h;done)|(rename_i s d x;have h:qJ C s d=true:=h;show (sliceTo C d&& !qJ C s d)=false;rw [h];simp)
theorem ajF {l:List Oper} {tr:List Tr} {h0:AH} {j:Nat} (h1:(dE C l tr h0).nw j=false) (h2:(dE C l tr h0).ef j=false):rdB C (l.getD j default).op=true:=by
 have h1:mkB C (l.getD j default).op=false:=h1
 have h2:dW C (l.getD j default).op=false:=h2
 unfold rdB;rw [h1,h2];rfl
structure Step (C:Cx) (run:Run) (T:Tms) (l:List Oper) (tr:List Tr) (h0:AH) (j:Nat) (f:OpA):Prop where
 new:(dE C l tr h0).nw j=true→ ∃h',f C run (sgT tr j) T (cr (hpT h0 tr j).length none) kVH=some (.vh (tr.getD j default).v h')∧(hpT h0 tr j).length≤h'.length∧h'.length≤(hpT h0 tr j).length+1∧hpT h0 tr (j+1)=hpT h0 tr j++h'.drop (hpT h0 tr j).length
 ef:(dE C l tr h0).ef j=true→ ∃h',f C run (sgT tr j) T (dy ((dE C l tr h0).hid j) (hpT h0 tr j)) kVH=some (.vh (tr.getD j default).v h')∧(hpT h0 tr j).length≤h'.length∧hpT h0 tr (j+1)=mL (hpT h0 tr j) ((dE C l tr h0).hid j) h'
 rd:(dE C l tr h0).nw j=false→(dE C l tr h0).ef j=false→hpT h0 tr (j+1)=hpT h0 tr j∧ ∃h',f C run (sgT tr j) T (dy ((dE C l tr h0).hid j) (hpT h0 tr j)) kVH=some (.vh (tr.getD j default).v h')
 sh:(tr.getD j default).h=hpT h0 tr j∧(tr.getD j default).σ=sgT tr j
theorem tM (l:List Oper) (j:Nat) (hj:j≤l.length):(l.take j).map (·.dst)=(List.range j).map fun i=>(l.getD i default).dst:=by
 apply List.ext_getElem?
 intro i
 simp only [List.getElem?_map,List.getElem?_take]
 by_cases hi:i<j
 ·rw [if_pos hi,List.getElem?_range hi,List.getElem?_eq_getElem (by omega)]
  simp [List.getD_eq_getElem?_getD,List.getElem?_eq_getElem (show i<l.length by omega)]
 ·rw [if_neg hi,List.getElem?_eq_none (by simpa using hi)]
  rfl
theorem adL {T:Tms} {l:List Oper} {tr:List Tr} {h0:AH} {j:Nat} {o:Oper} (ho:l[j]? =some o) (F:Fact C run T h0 (bC C l (bM l) 0 (aV C l [] l)) tr j):Step C run T l tr h0 j (jP C l (((List.range j).map fun i=>(l.getD i default).dst).reverse) o).f:=by
 obtain ⟨d,h1,h2⟩:=F
 rw [kH,kg,ho] at h1
 simp only [Option.map_some,Option.some.injEq,Nat.zero_add,List.append_nil] at h1
 have hds:=tM l j (Nat.le_of_lt (List.getElem?_eq_some_iff.1 ho).1)
 rw [hds] at h1
 have hh:dJ (tr.take j) (gJ C l (bM l) j)=dJ tr (gJ C l (bM l) j):=xF tr j _ (fun i hi=>(oW.1 hi).2.1)
 have sh:=ajn h2
 subst h1
 rcases xM h2 with ⟨a1,v,h',a2,a3,a4,a5⟩|⟨a1,v,h',a2,⟨a3,a4,a5⟩|⟨a3,a5⟩⟩
 ·have a1:mkB C (l.getD j default).op=true:=a1
  refine ⟨fun _=>⟨h',?_,a3,a4,?_⟩,fun c=>?_,fun c=>?_,sh.2,sh.1⟩
  ·rw [a5];exact a2
  ·show (tr.getD j default).h'=_
   rw [a5]
  ·have c:dW C (l.getD j default).op=true:=c
   rw [acW a1] at c;cases c
  ·rw [show (dE C l tr h0).nw j=true from a1] at c;cases c
 ·have a1:mkB C (l.getD j default).op=false:=a1
  have a2:=a2;simp only [hh] at a2 a5
  refine ⟨fun c=>?_,fun _=>⟨h',?_,a4,?_⟩,fun _ c=>?_,sh.2,sh.1⟩
  ·rw [show (dE C l tr h0).nw j=false from a1] at c;cases c
  ·rw [a5];exact a2
  ·show (tr.getD j default).h'=_
   rw [a5];rfl
  ·rw [show (dE C l tr h0).ef j=true from a3] at c;cases c
 ·have a1:mkB C (l.getD j default).op=false:=a1
  have a2:=a2;simp only [hh] at a2 a5
  refine ⟨fun c=>?_,fun c=>?_,fun _ _=>⟨?_,h',?_⟩,sh.2,sh.1⟩
  ·rw [show (dE C l tr h0).nw j=false from a1] at c;cases c
  ·rw [show (dE C l tr h0).ef j=false from a3] at c;cases c
  ·show (tr.getD j default).h'=_
   rw [a5]
  ·rw [a5];exact a2
theorem apU {T:Tms} {l:List Oper} {tr:List Tr} {h0:AH} (hl:tr.length=l.length) (F: ∀j,j<l.length→Fact C run T h0 (bC C l (bM l) 0 (aV C l [] l)) tr j):(dE C l tr h0).Ok:=by
 have st: ∀j,j<l.length→ ∃f,Step C run T l tr h0 j f:=fun j hj=>⟨_,adL (List.getElem?_eq_getElem hj) (F j hj)⟩
 have mono: ∀j,j<l.length→(hpT h0 tr j).length≤(hpT h0 tr (j+1)).length:=by
  intro j hj
  obtain ⟨f,S⟩:=st j hj
  cases h1:(dE C l tr h0).nw j with
  |true=>obtain ⟨h',_,_,_,e⟩:=S.new h1;rw [e,List.length_append];omega
  |false=>
   cases h2:(dE C l tr h0).ef j with
   |true=>obtain ⟨h',_,a,e⟩:=S.ef h2;rw [e,lC];exact a
   |false=>rw [(S.rd h1 h2).1];exact Nat.le_refl _
 have le: ∀(t s:Nat),s≤t→t≤l.length→(hpT h0 tr s).length≤(hpT h0 tr t).length:=by
  intro t
  induction t with
  |zero=>intro s h _;rw [Nat.le_zero.1 h];exact Nat.le_refl _
  |succ t ih=>
   intro s h hN
   rcases Nat.lt_or_ge t s with h'|h'
   ·rw [show s=t+1 by omega];exact Nat.le_refl _
   ·exact Nat.le_trans (ih s h' (by omega)) (mono t (by omega))
 have trh: ∀i,i<l.length→ ∃r,tr[i]? =some r∧r.h=hpT h0 tr i∧r.h'=hpT h0 tr (i+1):=by
  intro i hi
  obtain ⟨f,S⟩:=st i hi
  refine ⟨tr[i],List.getElem?_eq_getElem (by omega),?_,?_⟩
  ·rw [←S.sh.1];simp [List.getD_eq_getElem?_getD,List.getElem?_eq_getElem (show i<tr.length by omega)]
  ·show _=(tr.getD i default).h'
   simp [List.getD_eq_getElem?_getD,List.getElem?_eq_getElem (show i<tr.length by omega)]
 refine ⟨mono,fun j hj h1 h2=>?_,fun j hj h1=>?_,fun j n hj h1 h2 h3=>?_,fun j i hj h1 h2 h3 h4 h5=>?_,fun j n hj h1=>?_,fun j c=>?_⟩
 ·obtain ⟨f,S⟩:=st j hj
  exact (S.rd h1 h2).1
 ·obtain ⟨f,S⟩:=st j hj
  obtain ⟨h',a,b,c,e⟩:=S.new h1
  refine ⟨fun n hn=>?_,?_⟩
  ·show ae (hpT h0 tr (j+1)) n=_
   rw [e,←aP,cH,if_pos (show n<(hpT h0 tr j).length from hn)];rfl
  ·show (hpT h0 tr (j+1)).length≤_
   rw [e,List.length_append,List.length_drop]
   show _≤(hpT h0 tr j).length+1
   omega
 ·obtain ⟨f,S⟩:=st j hj
  obtain ⟨h',a,b,e⟩:=S.ef h1
  show ae (hpT h0 tr (j+1)) n=ae (hpT h0 tr j) n
  have h3:n<(hpT h0 tr j).length:=h3
  rw [e,np,if_pos ⟨h2,by omega⟩]
 ·obtain ⟨r,r1,r2,r3⟩:=trh i (by have:j<l.length:=hj;omega)
  refine (uJ tr _ _).2 ⟨i,oW.2 ⟨h1,h2,h3,?_⟩,r,r1,?_,?_⟩
  ·have h4: ¬(((bM l).getD j 0).testBit i=true):=h4
   simpa using h4
  ·rw [r2,r3];exact h5
  ·rw [r2];rfl
 ·obtain ⟨i,i1,r,r1,r2,r3⟩:=(uJ tr _ _).1 h1
  have hij:=(oW.1 i1).2.1
  have hj:j<l.length:=hj
  obtain ⟨r',q1,q2,q3⟩:=trh i (by omega)
  rw [r1] at q1;cases q1
  show n<(hpT h0 tr j).length
  have:=mono i (by omega)
  have:=le j (i+1) hij (by omega)
  rw [q2,q3] at r2
  rw [r3,q2]
  omega
 ·have c1:mkB C (l.getD j default).op=true:=c.1
  have c2:dW C (l.getD j default).op=true:=c.2
  rw [acW c1] at c2;cases c2
theorem wz {n i j:Nat}:(i,j)∈abg n↔i<j∧j<n:=by
 unfold abg
 simp only [List.mem_flatMap,List.mem_range,List.mem_map]
 constructor
 ·rintro ⟨j',h1,i',h2,h3⟩
  cases h3;exact ⟨h2,h1⟩
 ·rintro ⟨h1,h2⟩;exact ⟨j,h2,i,h1,rfl⟩
structure acK (C:Cx) (ops:Array Oper):Prop where
 dir: ∀(j:Nat) (o:Oper),ops[j]? =some o→ ∀e,e∈o.after→Region.binds .any e=true→e.on<j
 pair: ∀i j oi oj,ops[i]? =some oi→ops[j]? =some oj→i<j→((bM ops.toList).getD j 0).testBit i=true∨(oi.apart ops oj=true∧oj.apart ops oi=true∧ ¬(dW C oi.op=true∧dW C oj.op=true))
theorem p9 {ops:Array Oper} {i:Nat} {o:Oper} (h:ops[i]? =some o):ops.toList.getD i default=o:=by
 rw [List.getD_eq_getElem?_getD,Array.getElem?_toList,h];rfl
theorem aal {ops:Array Oper} (h:fh C ops=true):acK C ops:=by
 unfold fh at h
 simp only [Bool.and_eq_true,List.all_eq_true] at h
 obtain ⟨⟨_,h2⟩,h3⟩:=h
 refine ⟨fun j o ho e he hb=>?_,fun i j oi oj hi hj hij=>?_⟩
 ·have hj:j<ops.toList.length:=by rw [Array.length_toList];exact (Array.getElem?_eq_some_iff.1 ho).1
  have:=h2 j (List.mem_range.2 hj) e (by rw [p9 ho];exact Array.mem_toList_iff.2 he)
  simpa [hb,Nat.blt_eq] using this
 ·have hj':j<ops.toList.length:=by rw [Array.length_toList];exact (Array.getElem?_eq_some_iff.1 hj).1
  have:=h3 (i,j) (wz.2 ⟨hij,hj'⟩)
  simp only [p9 hi,p9 hj,Bool.or_eq_true,Bool.and_eq_true,Bool.not_eq_true'] at this
  rcases this with h|⟨⟨h1,h2⟩,h3⟩
  ·exact .inl h
  ·refine .inr ⟨h1,h2,fun c=>?_⟩
   rw [c.1,c.2] at h3;cases h3
theorem sD {ops:Array Oper} {i j:Nat} (hij:i<j) (hj:j<ops.toList.length) (hb: ¬(((bM ops.toList).getD j 0).testBit i=true)):
 (rdB C (ops.toList.getD i default).op=true→dW C (ops.toList.getD j default).op=true→(i,j)∈bo C ops)∧(dW C (ops.toList.getD i default).op=true→rdB C (ops.toList.getD j default).op=true→(j,i)∈bo C ops):=by
 have m:=wz.2 ⟨hij,hj⟩
 have hb:((bM ops.toList).getD j 0).testBit i=false:=by simpa using hb
 refine ⟨fun h1 h2=>?_,fun h1 h2=>?_⟩
 ·unfold bo
  refine List.mem_flatMap.2 ⟨(i,j),m,?_⟩
  simp only [hb,h1,h2,Bool.and_self,if_true]
  simp
 ·unfold bo
  refine List.mem_flatMap.2 ⟨(i,j),m,?_⟩
  have:rdB C (ops.toList.getD i default).op=false:=by unfold rdB;rw [h1,Bool.not_true,Bool.and_false]
  simp only [hb,this,h1,h2,Bool.and_self,Bool.false_and,if_true]
  simp
theorem zo {α:Type} {f:α→Bool}: ∀{l:List α},fY f l=true→ ∀a,a∈l→f a=true
 |[],_,a,h=>by cases h
 |b::l,e,a,h=>by
  have e:and (f b) (fY f l)=true:=e
  rw [Bool.and_eq_true] at e
  rcases List.mem_cons.1 h with rfl|h
  ·exact e.1
  ·exact zo e.2 a h
theorem wZ {T:Tms} {ops:Array Oper} {tr:List Tr} {h0:AH} {j e:Nat} {o:Oper} (ho:ops[j]? =some o) (he:e<ops.toList.length) (hl:tr.length=ops.toList.length) (st: ∀j,j<ops.toList.length→(tr.getD j default).h=hpT h0 tr j∧(tr.getD j default).σ=sgT tr j)
 (p:mS C run T (bC C ops.toList (bM ops.toList) 0 (aV C ops.toList [] ops.toList)) tr (j,e)=true):
 AV.lt (hpT h0 tr j).length (tr.getD j default).v=true∧ ∃h',(jP C ops.toList (((List.range j).map fun i=>(ops.toList.getD i default).dst).reverse) o).f C run (sgT tr j) T (cF (hpT h0 tr j).length (dy ((dE C ops.toList tr h0).hid j) (hpT h0 tr (if j<e then e+1 else e)))) kVH=some (.vh (tr.getD j default).v h'):=by
 have hj:j<ops.toList.length:=by rw [Array.length_toList];exact (Array.getElem?_eq_some_iff.1 ho).1
 have ho':ops.toList[j]? =some o:=by rw [Array.getElem?_toList];exact ho
 have hds:=tM ops.toList j (Nat.le_of_lt hj)
 unfold mS at p
 simp only [bt,kH,kg,ho',Option.map_some,Nat.zero_add,List.append_nil] at p
 rw [List.getElem?_eq_getElem (show j<tr.length by omega),List.getElem?_eq_getElem (show e<tr.length by omega)] at p
 simp only [Bool.and_eq_true] at p
 obtain ⟨p1,p2⟩:=p
 have gj:tr.getD j default=tr[j]:=by simp [List.getD_eq_getElem?_getD,List.getElem?_eq_getElem (show j<tr.length by omega)]
 have ge:tr.getD e default=tr[e]:=by simp [List.getD_eq_getElem?_getD,List.getElem?_eq_getElem (show e<tr.length by omega)]
 obtain ⟨s1,s2⟩:=st j hj
 obtain ⟨s3,_⟩:=st e he
 rw [gj] at s1 s2
 rw [ge] at s3
 rw [gj]
 rw [ah,s1] at p1 p2
 refine ⟨p1,?_⟩
 unfold isV at p2
 split at p2
 ·rename_i x hx
  have hx:=vq hx
  have hE:bq (Nat.blt j e) (tr[e]).h' (tr[e]).h=hpT h0 tr (if j<e then e+1 else e):=by
   by_cases hje:j<e
   ·rw [if_pos hje,show Nat.blt j e=true from by simpa [Nat.blt_eq] using hje,aw]
    show _=(tr.getD e default).h'
    rw [ge]
   ·rw [if_neg hje,show Nat.blt j e=false from by rw [Bool.eq_false_iff];intro c;exact hje (by simpa [Nat.blt_eq] using c),ay,s3]
  rw [hE,s2,hds] at hx
  have:=aeM _ _ p2
  refine ⟨x.2,?_⟩
  rw [this]
  exact hx
 ·cases p2
end
end Go.Proofs.YteapfopaiocpeaaGreatDoor
namespace Go.Proofs.YteapfopaiocpeaaGreatDoor
set_option linter.unusedSimpArgs false
set_option linter.unusedVariables false
set_option linter.unnecessarySimpa false
section
variable {P:Program} {C:Cx} {run:Run}
def Li (listed:Array Bool):Nat→Prop:=fun j=>listed.getD j false=true
def vvT (tr:List Tr):Nat→AV:=fun i=>(tr.getD i default).v
def aaB (l:List Oper):Nat→Option Nat:=fun i=>(l.getD i default).dst
theorem aiq {tr:List Tr} {j:Nat} (hj:j≤tr.length):sgT tr j=((List.range j).map (vvT tr)).reverse:=by
 unfold sgT
 congr 1
 apply List.ext_getElem?
 intro i
 simp only [List.getElem?_map,List.getElem?_take]
 by_cases hi:i<j
 ·rw [if_pos hi,List.getElem?_range hi,List.getElem?_eq_getElem (by omega)]
  simp [vvT,List.getD_eq_getElem?_getD,List.getElem?_eq_getElem (show i<tr.length by omega)]
 ·rw [if_neg hi,List.getElem?_eq_none (by simpa using hi)]
  rfl
theorem count_set: ∀(l:List Bool) (i:Nat),l[i]? =some false→(l.set i true).count false+1=l.count false
 |[],i,h=>by simp at h
 |b::l,0,h=>by
  simp at h;subst h
  simp
 |b::l,i+1,h=>by
  have:=count_set l i (by simpa using h)
  rw [List.set_cons_succ,List.count_cons,List.count_cons]
  omega
theorem unl {listed:Array Bool} {i N:Nat} (hs:listed.size=N) (hi:i<N) (h: ¬Li listed i):listed.toList[i]? =some false:=by
 unfold Li at h
 rw [Array.getD_eq_getD_getElem?] at h
 rw [Array.getElem?_toList]
 rw [Array.getElem?_eq_getElem (by omega)] at h ⊢
 simpa using h
theorem ahZ {listed:Array Bool} {i N:Nat} (hs:listed.size=N) (hi:i<N) (q:Nat):Li (listed.setIfInBounds i true) q↔(Li listed q∨q=i):=by
 unfold Li
 by_cases hq:i=q
 ·subst hq
  simp [Array.getD_eq_getD_getElem?,Array.getElem?_setIfInBounds,show i<listed.size by omega]
 ·rw [getD_set_ne false hq]
  simp [Ne.symm hq]
theorem kI {ops:Array Oper} {listed:Array Bool} {i:Nat} (hs:listed.size=ops.toList.length) (h:i∈Region.ready .any ops listed):i<ops.toList.length∧ ¬Li listed i∧ ∃o,ops[i]? =some o∧ ∀e∈o.after,Region.binds .any e=true→Li listed e.on:=by
 obtain ⟨h1,o,h2,h3⟩:=mem_ready.1 h
 have hi:i<ops.toList.length:=by rw [Array.length_toList];exact (Array.getElem?_eq_some_iff.1 h2).1
 refine ⟨hi,fun c=>?_,o,h2,h3⟩
 unfold Li at c
 rw [Array.getD_eq_getD_getElem?,Array.getElem?_eq_getElem (by omega)] at h1 c
 simp at h1 c
 rw [h1] at c;cases c
theorem xk {ops:Array Oper} {listed:Array Bool} (hs:listed.size=ops.toList.length) (K:acK C ops) (h:Region.ready .any ops listed=[]): ∀j,j<ops.toList.length→Li listed j:=by
 intro j
 induction j using Nat.strongRecOn with
 |_ j ih=>
  intro hj
  refine Classical.byContradiction fun c=>?_
  have hj':j<ops.size:=by rwa [Array.length_toList] at hj
  have ho:ops[j]? =some ops[j]:=Array.getElem?_eq_getElem hj'
  have:j∈Region.ready .any ops listed:=by
   refine mem_ready.2 ⟨?_,ops[j],ho,fun e he hb=>?_⟩
   ·have:=unl hs hj c
    rw [Array.getElem?_toList] at this
    rw [Array.getD_eq_getD_getElem?,this];rfl
   ·have hlt:=K.dir j _ ho e he hb
    exact ih e.on hlt (by omega)
  rw [h] at this;cases this
set_option maxHeartbeats 1600000 in
theorem aqX (X:aX P C) (H:dg P C run) {ops:Array Oper} {n:Nat} {ps:List Nat} {T:Tms} {tr:List Tr} {h0:AH} (K:acK C ops) (hb: ∀o∈ops.toList,opB n o=true) (hl:tr.length=ops.toList.length)
 (F: ∀j,j<ops.toList.length→Fact C run T h0 (bC C ops.toList (bM ops.toList) 0 (aV C ops.toList [] ops.toList)) tr j)
 (PL: ∀p,p∈bo C ops→mS C run T (bC C ops.toList (bM ops.toList) 0 (aV C ops.toList [] ops.toList)) tr p=true)
 {ok0:Nat→Prop} {w0:World} {ρi:Rho} (I0:Inv C ok0 w0 ρi h0) (inn: ∀i,tin T i=true→i∈ps) (low: ∀i∈ps,i<n) {ds0:List Deferred} {Q:Exit→Act→World→Prop}
 (hQ: ∀a' w' ok' ρ',Ext ok0 w0 ρi h0 ok' w' ρ' (hpT h0 tr ops.toList.length)→Inv C ok' w' ρ' (hpT h0 tr ops.toList.length)→TOk ok' w' ρ' ps n (bZ (sgT tr ops.toList.length) T (flL ps ops.toList)) a'.tmps→a'.defers=ds0→Q .normal a' w'):
 ∀(fuel:Nat) (listed:Array Bool) (a:Act) (w:World) (ok:Nat→Prop) (ρ:Rho) (k:Nat),listed.size=ops.toList.length→listed.toList.count false≤fuel→DSt (dE C ops.toList tr h0) C ok0 w0 ρi (Li listed) k ok w ρ→vR (dE C ops.toList tr h0) (vvT tr) (aaB ops.toList) T (Li listed) ok w ρ a.tmps→n≤a.tmps.size→a.defers=ds0→wpAny P .any ops Q fuel listed a w:=by
 have O:=apU hl F
 have ST: ∀{j:Nat} {o:Oper},ops[j]? =some o→Step C run T ops.toList tr h0 j (jP C ops.toList (((List.range j).map fun i=>(ops.toList.getD i default).dst).reverse) o).f:=by
  intro j o ho
  have hj:j<ops.toList.length:=by rw [Array.length_toList];exact (Array.getElem?_eq_some_iff.1 ho).1
  exact adL (by rw [Array.getElem?_toList];exact ho) (F j hj)
 -- the end
 have fin: ∀(listed:Array Bool) (a:Act) (w:World) (ok:Nat→Prop) (ρ:Rho) (k:Nat),(∀j,j<ops.toList.length→Li listed j)→DSt (dE C ops.toList tr h0) C ok0 w0 ρi (Li listed) k ok w ρ→vR (dE C ops.toList tr h0) (vvT tr) (aaB ops.toList) T (Li listed) ok w ρ a.tmps→n≤a.tmps.size→a.defers=ds0→Q .normal a w:=by
  intro listed a w ok ρ k all S M hs hd
  have ne: ∀e,k≤e→e<ops.toList.length→(dE C ops.toList tr h0).ef e=true→False:=by
   intro e h1 h2 h3
   have:=(S.kl e h2 h3).1 (all e h2)
   omega
  have G:(dE C ops.toList tr h0).View (Li listed) k (hpT h0 tr ops.toList.length):=by
   intro m b e
   have hm:=cD (show ae (hpT h0 tr ops.toList.length) m≠none by rw [e];simp)
   obtain ⟨t,t1,t2⟩:=DE.ym (D:=dE C ops.toList tr h0) ops.toList.length hm
   have kN:k≤ops.toList.length:=S.kN
   refine ⟨t,t1,t2,?_,?_,O.le ops.toList.length (by omega) (Nat.le_refl _)⟩
   ·rcases Nat.eq_zero_or_pos t with h|h
    ·exact .inl h
    ·exact .inr (all _ (by omega))
   ·rw [←e]
    exact (O.same (Nat.lt_of_lt_of_le t2.1 (O.le _ (by omega) (by show max k t≤ops.toList.length;omega))) ops.toList.length (by omega) (Nat.le_refl _) (fun e a b c=>(ne e (by omega) b c).elim)).symm
  have I:=S.inv G
  have hρ:rr ρ (hpT h0 tr ops.toList.length).length=ρ:=by
   funext m
   cases hm:ρ m with
   |none=>unfold rr;split<;>simp [hm]
   |some r=>
    obtain ⟨_,t,t1,t2,t3⟩:=S.dom m r hm
    exact cL.2 ⟨Nat.lt_of_lt_of_le t3.1 (O.le ops.toList.length t1 (Nat.le_refl _)),hm⟩
  rw [hρ] at I
  have E:=S.ext
  refine hQ a w ok ρ ⟨E.up,E.size,E.os,E.tape,E.output,O.le ops.toList.length (Nat.zero_le _) (Nat.le_refl _),E.keep,E.oknew,fun m hm e=>E.alive m hm ?_,E.rnew⟩ I ?_ hd
  ·intro c
   apply e
   have kN:k≤ops.toList.length:=S.kN
   have:=O.same (Nat.lt_of_lt_of_le hm (O.le k (Nat.zero_le _) S.kN)) ops.toList.length kN (Nat.le_refl _) (fun e a b c=>(ne e a b c).elim)
   exact this.trans c
  ·unfold flL
   have hds:(ops.toList.map (·.dst))=(List.range ops.toList.length).map (aaB ops.toList):=by
    have:=tM ops.toList ops.toList.length (Nat.le_refl _)
    rw [List.take_length] at this
    exact this
   have up: ∀ℓ,Up ok w (rr ρ ℓ) ok w ρ:=fun ℓ=>apT fun _ _ _ h=>h
   refine RI.flush ⟨fun d i e=>?_,fun d e=>?_⟩ hs inn low
   ·rw [hds] at e
    obtain ⟨h1,h2,h3⟩:=uz _ d _ _ e
    have:oT (sgT tr ops.toList.length) i=vvT tr (ops.toList.length-1-i):=by
     rw [yB,aiq (by omega),List.getElem?_reverse (by simpa using h1)]
     simp only [List.length_map,List.length_range,List.getElem?_map]
     rw [List.getElem?_range (by omega)]
     rfl
    rw [this]
    refine V.up _ (up _) (M.wr d _ (all _ (by omega)) h2 (fun q q1 q2=>?_))
    have hq:q<ops.toList.length:=(S.cl q q1).1
    rcases Nat.lt_or_ge (ops.toList.length-1-i) q with h|h
    ·exact absurd q2 (h3 q h hq)
    ·exact h
   ·rw [hds] at e
    have hn:=jV _ d _ e
    exact V.up _ (up _) (M.un d (fun p hp=>hn p (S.cl p hp).1))
 intro fuel
 induction fuel with
 |zero=>
  intro listed a w ok ρ k hsz hc S M hs hd
  have hr:Region.ready .any ops listed=[]:=by
   cases hr:Region.ready .any ops listed with
   |nil=>rfl
   |cons i r=>
    exfalso
    obtain ⟨h1,h2,_⟩:=kI hsz (show i∈Region.ready .any ops listed by rw [hr];simp)
    have:=count_set _ _ (unl hsz h1 h2)
    omega
  exact ⟨hr,fin listed a w ok ρ k (xk hsz K hr) S M hs hd⟩
 |succ fuel ih=>
  intro listed a w ok ρ k hsz hc S M hs hd
  refine ⟨fun hr=>fin listed a w ok ρ k (xk hsz K hr) S M hs hd,fun i hi=>?_⟩
  obtain ⟨hiN,nl,o,ho,hall⟩:=kI hsz hi
  have hL:=ahZ hsz hiN
  have hsz':(listed.setIfInBounds i true).size=ops.toList.length:=by simpa using hsz
  have hc':(listed.setIfInBounds i true).toList.count false≤fuel:=by
   have:=count_set _ _ (unl hsz hiN nl)
   rw [Array.toList_setIfInBounds]
   omega
  have hoi:ops.toList.getD i default=o:=p9 ho
  have bj: ∀q,(dE C ops.toList tr h0).B i q→Li listed q:=by
   intro q hq
   have hq:((bM ops.toList).getD i 0).testBit q=true:=hq
   rw [ajB (show ops.toList[i]? =some o by rw [Array.getElem?_toList];exact ho)] at hq
   obtain ⟨e,e1,e2,e3⟩:=ahd hq
   have e1:=Array.mem_toList_iff.1 e1
   have hlt:=K.dir i o ho e e1 e2
   have hli:=hall e e1 e2
   rcases e3 with rfl|e3
   ·exact hli
   ·refine (S.cl e.on hli).2 q ?_
    show ((bM ops.toList).getD e.on 0).testBit q=true
    rw [←e3,List.getD_eq_getElem?_getD,List.getD_eq_getElem?_getD,List.getElem?_take,if_pos hlt]
  have opq: ∀q,q<ops.toList.length→ ∃oq,ops[q]? =some oq∧ops.toList.getD q default=oq:=by
   intro q hq
   have hq':q<ops.size:=by rwa [Array.length_toList] at hq
   exact ⟨ops[q],Array.getElem?_eq_getElem hq',p9 (Array.getElem?_eq_getElem hq')⟩
  -- later ones that are listed do not meet it
  have later: ∀q,i<q→Li listed q→ ∃oq,ops[q]? =some oq∧ops.toList.getD q default=oq∧o.apart ops oq=true:=by
   intro q hq hl
   obtain ⟨oq,q1,q2⟩:=opq q (S.cl q hl).1
   rcases K.pair i q o oq ho q1 hq with h|⟨h,_,_⟩
   ·exact absurd ((S.cl q hl).2 i h) nl
   ·exact ⟨oq,q1,q2,h⟩
  have look: ∀d,d∈o.looksAt ops→ ∀ℓ,(hpT h0 tr i).length≤ℓ→V ok w (ev C (sgT tr i) T (od (((List.range i).map (aaB ops.toList)).reverse) (.tmp d))) (rr ρ ℓ) (a.tmps.getD d undef):=by
   intro d hd ℓ hℓ
   refine M.look O hiN nl (fun q hq=>(S.cl q hq).1) (fun q h1 h2=>?_) (fun q h1 h2 h3=>?_) hℓ (aiq (by omega))
   ·obtain ⟨oq,q1,q2⟩:=opq q (by omega)
    rcases K.pair q i oq o q1 ho h1 with h|⟨h,_,_⟩
    ·exact bj q h
    ·have h2:(ops.toList.getD q default).dst=some d:=h2
     rw [q2] at h2
     exact absurd hd ((Oper.apart_spec h).1 d h2)
   ·obtain ⟨oq,q1,q2,q3⟩:=later q h1 h3
    have h2:(ops.toList.getD q default).dst=some d:=h2
    rw [q2] at h2
    exact (Oper.apart_spec q3).2.2 d h2 hd
  have hvs: ∀{g:AH},(hpT h0 tr i).length≤g.length→Inv C ok w (rr ρ g.length) g→ ∀x,(x∈o.op.operands∨ ∃d,x= .tmp d∧d∈o.looksAt ops)→V ok w (ev C (sgT tr i) T (od (((List.range i).map (aaB ops.toList)).reverse) x)) (rr ρ g.length) (a.eval x):=by
   intro g hg I x hx
   refine abO I x (fun d hd=>look d ?_ _ hg)
   rcases hx with hx|⟨d',h1,h2⟩
   ·subst hd
    exact List.mem_append_left _ (List.mem_filterMap.2 ⟨.tmp d,by simpa using hx,rfl⟩)
   ·rw [h1] at hd;cases hd;exact h2
  have hput: ∀d,aaB ops.toList i=some d→d<a.tmps.size∧ ∀q,Li listed q→aaB ops.toList q=some d→q<i:=by
   intro d h1
   have h1:(ops.toList.getD i default).dst=some d:=h1
   rw [hoi] at h1
   refine ⟨?_,fun q q1 q2=>?_⟩
   ·have:=hb o (List.mem_of_getElem? (by rw [Array.getElem?_toList];exact ho))
    unfold opB at this
    rw [h1] at this
    have:d<n:=by simpa [Nat.blt_eq] using this
    omega
   ·rcases Nat.lt_trichotomy q i with h|h|h
    ·exact h
    ·exact absurd (h▸q1) nl
    ·obtain ⟨oq,q3,q4,q5⟩:=later q h q1
     have q2:(ops.toList.getD q default).dst=some d:=q2
     rw [q4] at q2
     exact absurd q2 ((Oper.apart_spec q5).2.1 d h1)
  have hdst:aaB ops.toList i=o.dst:=by show (ops.toList.getD i default).dst=_;rw [hoi]
  have next: ∀u w' ok' ρ' k',DSt (dE C ops.toList tr h0) C ok0 w0 ρi (Li (listed.setIfInBounds i true)) k' ok' w' ρ'→Up ok w ρ ok' w' ρ'→V ok' w' (vvT tr i) (rr ρ' (hpT h0 tr (i+1)).length) u→wpAny P .any ops Q fuel (listed.setIfInBounds i true) (a.put o.dst u) w':=by
   intro u w' ok' ρ' k' S' U hu
   refine ih _ _ w' ok' ρ' k' hsz' hc' S' ?_ (by rw [(eL a o.dst u).1];exact hs) ((eL a o.dst u).2.trans hd)
   rw [←hdst]
   exact (M.up U).put hL hu hput
  have st:=ST ho
  cases hw:(dE C ops.toList tr h0).nw i with
  |true=>
   obtain ⟨h',e,l1,l2,eh⟩:=st.new hw
   have G:(dE C ops.toList tr h0).View (Li listed) k (cr (hpT h0 tr i).length none):=by
    intro m b e
    rw [vo] at e;cases e
   have gl:(cr (hpT h0 tr i).length (none:Option Blk)).length=(hpT h0 tr i).length:=by rw [iJ,List.length_replicate]
   have I:=S.inv G
   obtain ⟨v,h'',k1,k2⟩:=te X H I ho (hvs (by rw [gl];exact Nat.le_refl _) I) e
   cases k1
   refine k2 _ Q (fun u w' ok' ρ' E I' Vu=>?_)
   have nf:(dE C ops.toList tr h0).ef i=false:=by
    cases hf:(dE C ops.toList tr h0).ef i with
    |false=>rfl
    |true=>exact absurd ⟨hw,hf⟩ (O.one i)
   have hl1:h'.length=(hpT h0 tr (i+1)).length:=by rw [eh,List.length_append,List.length_drop];omega
   obtain ⟨S',U,UN⟩:=S.lift (L':=Li (listed.setIfInBounds i true)) (k':=k) O I0 hiN nl gl G E I' hl1 (Nat.le_refl _) S.kN hL
    (fun e he hf=>by
     rw [hL,←S.kl e he hf]
     constructor
     ·rintro (h|h)
      ·exact h
      ·subst h;rw [nf] at hf;cases hf
     ·exact .inl) S.ke bj
    (fun m b m1 m2 m3=>by
     have hN1:i+1≤ops.toList.length:=hiN
     have kN:k≤ops.toList.length:=S.kN
     have:ae (hpT h0 tr (max k (i+1))) m=ae (hpT h0 tr (i+1)) m:=O.same m3 (max k (i+1)) (by omega) (by show max k (i+1)≤ops.toList.length;omega) (fun e e1 e2 e3=>by
      have eN:e<ops.toList.length:=by omega
      have le:Li listed e:=(S.kl e eN e3).2 (by omega)
      have enw:(dE C ops.toList tr h0).nw e=false:=by
       cases hx:(dE C ops.toList tr h0).nw e with
       |false=>rfl
       |true=>exact absurd ⟨hx,e3⟩ (O.one e)
      have m3:m<(hpT h0 tr (i+1)).length:=m3
      have m1:(hpT h0 tr i).length≤m:=m1
      have:=O.hids e i eN enw (by omega) hw (fun hb=>nl ((S.cl e le).2 i hb)) (by show (hpT h0 tr (i+1)).length≠(hpT h0 tr i).length;omega)
      have q:(hpT h0 tr i).length=m:=by omega
      rw [←q];exact this)
     have m2:ae (hpT h0 tr (max k (i+1))) m=some b:=m2
     rw [this,eh,←aP,cH,if_neg (Nat.not_lt.2 (show (hpT h0 tr i).length≤m from m1)),bm,List.getElem?_drop] at m2
     rw [bm]
     rwa [show (hpT h0 tr i).length+(m-(hpT h0 tr i).length)=m from Nat.add_sub_cancel' m1] at m2)
    (fun m t b _ _ _ hg=>absurd (vo _ _) hg) (fun m t b _ _ _ _ h=>h) (fun _ _ h=>h)
   exact next u w' ok' _ k S' U (V.up _ UN Vu)
  |false=>
   -- earlier effects
   have early:(dE C ops.toList tr h0).ef i=true→ ∀e,e<i→(dE C ops.toList tr h0).ef e=true→Li listed e:=by
    intro hf e he hfe
    obtain ⟨oe,e1,e2⟩:=opq e (by omega)
    rcases K.pair e i oe o e1 ho he with h|⟨_,_,h⟩
    ·exact bj e h
    ·exfalso
     apply h
     have hf:dW C (ops.toList.getD i default).op=true:=hf
     have hfe:dW C (ops.toList.getD e default).op=true:=hfe
     rw [hoi] at hf;rw [e2] at hfe
     exact ⟨hfe,hf⟩
   cases hf:(dE C ops.toList tr h0).ef i with
   |true=>
    obtain ⟨h',e,l1,eh⟩:=st.ef hf
    have ki:k≤i:=by
     rcases Nat.lt_or_ge i k with h|h
     ·exact absurd ((S.kl i hiN hf).2 h) nl
     ·exact h
    have none': ∀e,k≤e→e<i→(dE C ops.toList tr h0).ef e=false:=by
     intro e h1 h2
     cases hx:(dE C ops.toList tr h0).ef e with
     |false=>rfl
     |true=>
      have eN:e<ops.toList.length:=by omega
      have:=(S.kl e eN hx).1 (early hf e h2 hx)
      omega
    have gl:(dy ((dE C ops.toList tr h0).hid i) (hpT h0 tr i)).length=(hpT h0 tr i).length:=mE _ _
    have G:(dE C ops.toList tr h0).View (Li listed) k (dy ((dE C ops.toList tr h0).hid i) (hpT h0 tr i)):=
     S.view O hiN hw bj ki (Nat.le_of_lt hiN) none' (fun m b hm=>by
      rw [fH] at hm
      split at hm
      ·cases hm
      ·next c=>exact ⟨cD (show ae (hpT h0 tr i) m≠none by rw [hm];simp),c,hm⟩) (by rw [gl];exact Nat.le_refl _)
    have I:=S.inv G
    obtain ⟨v,h'',k1,k2⟩:=te X H I ho (hvs (by rw [gl];exact Nat.le_refl _) I) e
    cases k1
    refine k2 _ Q (fun u w' ok' ρ' E I' Vu=>?_)
    have hl1:h'.length=(hpT h0 tr (i+1)).length:=by rw [eh,lC]
    have hN1:i+1≤ops.toList.length:=hiN
    have at1: ∀m,ae (hpT h0 tr (i+1)) m=if m∈(dE C ops.toList tr h0).hid i∧m<h'.length then ae (hpT h0 tr i) m else ae h' m:=by
     intro m;rw [eh,np]
    have toK: ∀m t,m<(hpT h0 tr i).length→t≤i→m<(hpT h0 tr t).length→ae (hpT h0 tr i) m=ae (hpT h0 tr (max k t)) m:=by
     intro m t h1 h2 h3
     exact O.same (Nat.lt_of_lt_of_le h3 (O.le _ (by omega) (by show max k t≤ops.toList.length;omega))) i (by omega) (Nat.le_of_lt hiN) (fun e a b c=>by rw [none' e (by omega) b] at c;cases c)
    obtain ⟨S',U,UN⟩:=S.lift (L':=Li (listed.setIfInBounds i true)) (k':=i+1) O I0 hiN nl gl G E I' hl1 (by omega) hN1 hL
     (fun e he hfe=>by
      rw [hL]
      constructor
      ·rintro (h|h)
       ·have:=(S.kl e he hfe).1 h;omega
       ·omega
      ·intro h
       rcases Nat.lt_or_ge e i with h'|h'
       ·exact .inl (early hf e h' hfe)
       ·exact .inr (by omega)) (.inr (by simpa using hf)) bj
     (fun m b m1 m2 m3=>by
      have m2:ae (hpT h0 tr (max (i+1) (i+1))) m=some b:=m2
      rw [Nat.max_self,at1,if_neg] at m2
      ·exact m2
      ·rintro ⟨c,_⟩
       have:=O.hidl i m hiN c
       omega)
     (fun m t b ow tN ld hg hm=>by
      have hmi:m<(hpT h0 tr i).length:=by have:=cD hg;rwa [gl] at this
      have ti:=O.yG ow hmi
      have hm:ae (hpT h0 tr (max (i+1) t)) m=some b:=hm
      have mx:max (i+1) t=i+1:=by omega
      rw [mx] at hm ⊢
      refine ⟨?_,Nat.le_refl _⟩
      rw [at1,if_neg] at hm
      ·exact hm
      ·rintro ⟨c,_⟩
       rw [fH,if_pos c] at hg
       exact hg rfl)
     (fun m t b ow tN ld hg hm=>by
      have hm:ae (hpT h0 tr (max (i+1) t)) m=some b:=hm
      show ae (hpT h0 tr (max k t)) m=some b
      by_cases hmi:m<(hpT h0 tr i).length
      ·have ti:=O.yG ow hmi
       rw [show max (i+1) t=i+1 by omega,at1] at hm
       split at hm
       ·rw [toK m t hmi ti ow.1] at hm;exact hm
       ·next c=>
        exfalso
        have:ae (dy ((dE C ops.toList tr h0).hid i) (hpT h0 tr i)) m≠none:=E.alive m (by rw [gl];exact hmi) (by rw [hm];simp)
        exact this hg
      ·have: ¬t≤i:=by
        intro c
        have:(hpT h0 tr t).length≤(hpT h0 tr i).length:=O.le i c (Nat.le_of_lt hiN)
        have:m<(hpT h0 tr t).length:=ow.1
        omega
       rcases Nat.lt_or_ge (i+1) t with h|h
       ·rw [show max (i+1) t=t by omega] at hm
        rw [show max k t=t by omega];exact hm
       ·have:t=i+1:=by omega
        subst this
        rcases ld with c|c
        ·omega
        ·exact absurd c nl)
     (fun m m0 hm=>by
      have hmi:m<(hpT h0 tr i).length:=Nat.lt_of_lt_of_le m0 (O.le i (Nat.zero_le _) (Nat.le_of_lt hiN))
      have hm:ae (hpT h0 tr (i+1)) m≠none:=hm
      show ae (hpT h0 tr k) m≠none
      have e0:=toK m 0 hmi (Nat.zero_le _) m0
      rw [Nat.max_zero] at e0
      rw [←e0]
      rw [at1] at hm
      split at hm
      ·exact hm
      ·have:=E.alive m (by rw [gl];exact hmi) hm
       rw [fH] at this
       split at this
       ·exact absurd rfl this
       ·exact this)
    exact next u w' ok' _ (i+1) S' U (V.up _ UN Vu)
   |false=>
    have hrd:rdB C o.op=true:=by have:=ajF hw hf;rwa [hoi] at this
    obtain ⟨eh,h',e⟩:=st.rd hw hf
    have S':=S.read (L':=Li (listed.setIfInBounds i true)) O hiN hw hf bj hL
    -- where the heap of the moment is that of boundary s
    have go: ∀(g:AH) (h':AH),(hpT h0 tr i).length≤g.length→(dE C ops.toList tr h0).View (Li listed) k g→(jP C ops.toList (((List.range i).map fun i=>(ops.toList.getD i default).dst).reverse) o).f C run (sgT tr i) T g kVH=some (.vh (tr.getD i default).v h')→
     (g.length=(hpT h0 tr i).length∨AV.lt (hpT h0 tr i).length (tr.getD i default).v=true)→wpOp P ops Q i (wpAny P .any ops Q fuel (listed.setIfInBounds i true)) a w:=by
     intro g h' hg G e hlt
     have I:=S.inv G
     obtain ⟨v,k1,k2⟩:=anx X I ho hrd (hvs hg I) e
     cases k1
     refine k2 _ Q (fun u Vu=>next u w ok ρ k S' (Up.refl _ _ _) ?_)
     rw [eh]
     rcases hlt with hlt|hlt
     ·rw [hlt] at Vu;exact Vu
     ·exact V.names _ (fun m r m1 m2=>cL.2 ⟨m1,(cL.1 m2).2⟩) hlt Vu
    have fitV: ∀s,k≤s→s≤ops.toList.length→(∀e,k≤e→e<s→(dE C ops.toList tr h0).ef e=false)→(dE C ops.toList tr h0).View (Li listed) k (cF (hpT h0 tr i).length (dy ((dE C ops.toList tr h0).hid i) (hpT h0 tr s))):=by
     intro s s1 s2 s3
     refine S.view O hiN hw bj s1 s2 s3 (fun m b hm=>?_) ?_
     ·rw [ajM] at hm
      split at hm
      ·next h1=>
       rw [fH] at hm
       split at hm
       ·cases hm
       ·next c=>exact ⟨h1,c,hm⟩
      ·cases hm
     ·rw [ad4,mE]
      show (hpT h0 tr s).length≤_
      omega
    have fitL: ∀s,(hpT h0 tr i).length≤(cF (hpT h0 tr i).length (dy ((dE C ops.toList tr h0).hid i) (hpT h0 tr s))).length:=by
     intro s;rw [ad4];omega
    have shs: ∀j,j<ops.toList.length→(tr.getD j default).h=hpT h0 tr j∧(tr.getD j default).σ=sgT tr j:=by
     intro j hj
     obtain ⟨oj,j1,_⟩:=opq j hj
     exact (ST j1).sh
    have nb: ∀e,e<ops.toList.length→(dE C ops.toList tr h0).ef e=true→dW C (ops.toList.getD e default).op=true:=fun e _ h=>h
    rcases Nat.lt_or_ge i k with hik|hik
    ·--behind an effect of the text to come
     have ke:=S.ke.resolve_left (by omega)
     have kN:k≤ops.toList.length:=S.kN
     have eN:k-1<ops.toList.length:=by omega
     have hne:i≠k-1:=by intro c;rw [←c,hf] at ke;cases ke
     have hlt:i<k-1:=by omega
     have le:=(S.kl (k-1) eN ke).2 (by omega)
     have hnb: ¬(((bM ops.toList).getD (k-1) 0).testBit i=true):=fun c=>nl ((S.cl _ le).2 i c)
     have pl:=(sD (C:=C) hlt eN hnb).1 (ajF hw hf) ke
     obtain ⟨p1,h2,p2⟩:=wZ ho eN hl shs (PL _ pl)
     rw [if_pos hlt,show k-1+1=k by omega] at p2
     exact go _ h2 (fitL k) (fitV k (Nat.le_refl _) kN (fun e a b=>by omega)) p2 (.inr p1)
    ·by_cases hex: ∃e,k≤e∧e<i∧(dE C ops.toList tr h0).ef e=true
     ·--ahead of an effect of the text before
      have least: ∀e,k≤e→e<i→(dE C ops.toList tr h0).ef e=true→ ∃e',k≤e'∧e'<i∧(dE C ops.toList tr h0).ef e'=true∧ ∀q,k≤q→q<e'→(dE C ops.toList tr h0).ef q=false:=by
       intro e
       induction e using Nat.strongRecOn with
       |_ e ih=>
        intro h1 h2 h3
        by_cases c: ∃q,k≤q∧q<e∧(dE C ops.toList tr h0).ef q=true
        ·obtain ⟨q,q1,q2,q3⟩:=c
         exact ih q q2 q1 (by omega) q3
        ·refine ⟨e,h1,h2,h3,fun q q1 q2=>?_⟩
         cases hx:(dE C ops.toList tr h0).ef q with
         |false=>rfl
         |true=>exact absurd ⟨q,q1,q2,hx⟩ c
      obtain ⟨e0,a1,a2,a3⟩:=hex
      obtain ⟨e1,b1,b2,b3,b4⟩:=least e0 a1 a2 a3
      have eN:e1<ops.toList.length:=by omega
      have hnb: ¬(((bM ops.toList).getD i 0).testBit e1=true):=fun c=>by
       have:=(S.kl e1 eN b3).1 (bj e1 c)
       omega
      have pl:=(sD (C:=C) b2 hiN hnb).2 b3 (ajF hw hf)
      obtain ⟨p1,h2,p2⟩:=wZ ho eN hl shs (PL _ pl)
      rw [if_neg (by omega)] at p2
      exact go _ h2 (fitL e1) (fitV e1 b1 (Nat.le_of_lt eN) b4) p2 (.inr p1)
     ·have none': ∀e,k≤e→e<i→(dE C ops.toList tr h0).ef e=false:=by
       intro e h1 h2
       cases hx:(dE C ops.toList tr h0).ef e with
       |false=>rfl
       |true=>exact absurd ⟨e,h1,h2,hx⟩ hex
      have gl:(dy ((dE C ops.toList tr h0).hid i) (hpT h0 tr i)).length=(hpT h0 tr i).length:=mE _ _
      have G:(dE C ops.toList tr h0).View (Li listed) k (dy ((dE C ops.toList tr h0).hid i) (hpT h0 tr i)):=
       S.view O hiN hw bj hik (Nat.le_of_lt hiN) none' (fun m b hm=>by
        rw [fH] at hm
        split at hm
        ·cases hm
        ·next c=>exact ⟨cD (show ae (hpT h0 tr i) m≠none by rw [hm];simp),c,hm⟩) (by rw [gl];exact Nat.le_refl _)
      exact go _ h' (by rw [gl];exact Nat.le_refl _) G e (.inl gl)
end
end Go.Proofs.YteapfopaiocpeaaGreatDoor
namespace Go.Proofs.YteapfopaiocpeaaGreatDoor
set_option linter.unusedSimpArgs false
set_option linter.unusedVariables false
set_option linter.unnecessarySimpa false
section
variable {P:Program} {C:Cx} {ok:Nat→Prop} {w:World} {ρ:Rho} {h:AH} {rs:Rs} {run:Run}
theorem pG (X:aX P C) (H:dg P C run) {ops:Array Oper} {n:Nat} {ps:List Nat} (hok:fh C ops=true) (hb: ∀o∈ops.toList,opB n o=true) {T:Tms} {a:Act} (I:Inv C ok w ρ h) (TT:TOk ok w ρ ps n T a.tmps) {T':Tms} {h':AH}
 (e:jR C run (flL ps ops.toList) T (bC C ops.toList (bM ops.toList) 0 (aV C ops.toList [] ops.toList)) (bo C ops) h=some (.st T' h'))
 (Q:Exit→Act→World→Prop) (hQ: ∀a' w' ok' ρ',Ext ok w ρ h ok' w' ρ' h'→Inv C ok' w' ρ' h'→TOk ok' w' ρ' ps n T' a'.tmps→a'.defers=a.defers→Q .normal a' w'):
 wpAny P .any ops Q ops.size (Array.replicate ops.size false) a {w with drawn:=w.drawn+1}:=by
 obtain ⟨x,e1,e2⟩:=ag (show au (eJ C run T (bC C ops.toList (bM ops.toList) 0 (aV C ops.toList [] ops.toList)) [] [] h) _=some (Rs.st T' h') from e)
 obtain ⟨e3,e4⟩:=ax (show bq _ _ none=some (Rs.st T' h') from e2)
 obtain ⟨t1,t2,t3,t4⟩:=alQ e1
 have len:(bC C ops.toList (bM ops.toList) 0 (aV C ops.toList [] ops.toList)).length=ops.toList.length:=by rw [xn,xL]
 rw [len] at t1 t2 t3 t4
 rw [t2,t3] at e4
 cases e4
 have K:=aal hok
 obtain ⟨E0,I0⟩:=Ext.drew I (w.drawn+1)
 have O:=apU (run:=run) t1 t4
 have low: ∀t,Ld (Li (Array.replicate ops.size false)) t→t=0:=by
  rintro t (h|h)
  ·exact h
  ·exfalso
   unfold Li at h
   rw [Array.getD_eq_getD_getElem?,Array.getElem?_replicate] at h
   split at h<;>simp at h
 have nl: ∀t,¬Li (Array.replicate ops.size false) t:=by
  intro t h
  have:=low (t+1) (.inr h)
  omega
 have rρ: ∀ℓ,h.length≤ℓ→rr ρ ℓ=ρ:=by
  intro ℓ hl
  funext m
  cases hm:ρ m with
  |none=>unfold rr;split<;>simp [hm]
  |some r=>exact cL.2 ⟨Nat.lt_of_lt_of_le (I.dom m r hm).1 hl,hm⟩
 refine aqX X H K hb t1 t4 (fun p hp=>zo e3 p hp) I TT.inn TT.low (ds0:=a.defers) hQ ops.size _ a _ ok ρ 0 (by simp) ?_ ⟨Nat.zero_le _,fun e _ _=>?_,.inl rfl,fun j hj=>absurd hj (nl j),I0.okb,I0.gl,fun m r hm=>?_,fun m t b o1 o2 o3 o4=>?_,fun m q t s r o1 o2 o3 o4 o5 o6 o7 o8 o9 o10=>?_,E0⟩ ⟨fun d p hp=>absurd hp (nl p),fun d _=>?_⟩ TT.size rfl
 ·rw [Array.toList_replicate]
  simp
 ·constructor
  ·intro h;exact absurd h (nl e)
  ·intro h;exact absurd h (Nat.not_lt_zero _)
 ·exact ⟨(I0.dom m r hm).2,0,Nat.zero_le _,.inl rfl,(I0.dom m r hm).1,fun s hs=>absurd hs (Nat.not_lt_zero _)⟩
 ·have:=low t o3
  subst this
  have o4:ae h m=some b:=o4
  obtain ⟨r,r1,r2,r3⟩:=I0.live m b o4
  refine ⟨r,r1,r2,?_⟩
  show gW ok _ (rr ρ h.length) r b
  rw [rρ _ (Nat.le_refl _)];exact r3
 ·have ht:=low t o5
  have hs:=low s o6
  subst ht;subst hs
  exact I0.inj m q r o7 o8 o9 o10
 ·show V ok _ (aW T d) (rr ρ h.length) _
  rw [rρ _ (Nat.le_refl _)]
  exact E0.V (TT.get d)
theorem aok (X:aX P C) (H:dg P C run) {id:Nat} {ops:Array Oper} {n:Nat} {ps:List Nat} (hok:fh C ops=true) (hb: ∀o∈ops.toList,opB n o=true) {T:Tms} {a:Act} (I:Inv C ok w ρ h) (TT:TOk ok w ρ ps n T a.tmps) {T':Tms} {h':AH}
 (e:jR C run (flL ps ops.toList) T (bC C ops.toList (bM ops.toList) 0 (aV C ops.toList [] ops.toList)) (bo C ops) h=some (.st T' h'))
 (Q:Exit→Act→World→Prop) (hQ: ∀a' w' ok' ρ',Ext ok w ρ h ok' w' ρ' h'→Inv C ok' w' ρ' h'→TOk ok' w' ρ' ps n T' a'.tmps→a'.defers=a.defers→Q .normal a' w'):
 (Code.region id ops true).wp P Q a w:=wp_region_any X.mixed (pG X H hok hb I TT e Q hQ)
end
end Go.Proofs.YteapfopaiocpeaaGreatDoor
namespace Go.Proofs.YteapfopaiocpeaaGreatDoor
set_option linter.unusedSimpArgs false
set_option linter.unusedVariables false
set_option linter.unnecessarySimpa false
section
variable {ok ok':Nat→Prop} {w:World} {ρ:Rho} {q r:Nat} {ks vs:List AV} {es:Array MapEntry} {ck:Nat}
structure Still (ok ok':Nat→Prop) (w:World) (ρ:Rho) (q r:Nat) (ks vs:List AV) (es:Array MapEntry) (ck:Nat):Prop where
 nam:ρ q=some r
 sub: ∀b,ok b→ok' b
 isok:ok' r
 cell:w.heap[r]? =some (.map es ck)
 keys:VL ok' w ks ρ0 (es.toList.map (·.key))
 vals:VL ok' w vs ρ0 (es.toList.map (·.val))
 stamps:vQ es ck
theorem Still.up (S:Still ok ok' w ρ q r ks vs es ck):Up ok w ρ ok' w ρ:=⟨fun _ _=>rfl,S.sub,fun _ _ h=>h,fun _ _ h=>h⟩
mutual
theorem V.frz (S:Still ok ok' w ρ q r ks vs es ck): ∀(v:AV) {u:Value},V ok w v ρ u→V ok' w (v.frz q ks vs) ρ u
 | .mpo b,u,h=>by
   show V ok' w (bq (Nat.beq b q) (.mpp ks vs) (.mpo b)) ρ u
   cases hb:Nat.beq b q with
   |false=>exact V.up (.mpo b) S.up h
   |true=>
    have:=Nat.eq_of_beq_eq_true hb
    subst this
    simp only [V] at h
    obtain ⟨r',h1,rfl⟩:=h
    rw [S.nam] at h1
    cases h1
    rw [aw]
    simp only [V]
    exact ⟨r,es,ck,S.isok,rfl,S.cell,S.keys,S.vals,S.stamps⟩
 | .agg cs,u,h=>by
   show V ok' w (.agg (rQ q ks vs cs)) ρ u
   simp only [V] at h ⊢
   obtain ⟨us,h1,h2⟩:=h
   exact ⟨us,h1,VL.frz S cs h2⟩
 | .tup cs,u,h=>by
   show V ok' w (.tup (rQ q ks vs cs)) ρ u
   simp only [V] at h ⊢
   obtain ⟨us,h1,h2⟩:=h
   exact ⟨us,h1,VL.frz S cs h2⟩
 | .bot,u,h=>V.up .bot S.up h
 | .bool b,u,h=>V.up (.bool b) S.up h
 | .int m n,u,h=>V.up (.int m n) S.up h
 | .str l,u,h=>V.up (.str l) S.up h
 | .nil,u,h=>V.up .nil S.up h
 | .pto b o,u,h=>V.up (.pto b o) S.up h
 | .ptp cs o,u,h=>V.up (.ptp cs o) S.up h
 | .nils,u,h=>V.up .nils S.up h
 | .slo b o l c z e,u,h=>V.up (.slo b o l c z e) S.up h
 | .slp cs l,u,h=>V.up (.slp cs l) S.up h
 | .sle,u,h=>V.up .sle S.up h
 | .nilm,u,h=>V.up .nilm S.up h
 | .mpp a b,u,h=>V.up (.mpp a b) S.up h
 | .nilf,u,h=>V.up .nilf S.up h
 | .fn f a c,u,h=>by
   show V ok' w (.fn f (rQ q ks vs a) (rQ q ks vs c)) ρ u
   simp only [V] at h ⊢
   obtain ⟨a',c',h1,h2,h3⟩:=h
   exact ⟨a',c',h1,VL.frz S a h2,VL.frz S c h3⟩
 | .nili,u,h=>V.up .nili S.up h
theorem VL.frz (S:Still ok ok' w ρ q r ks vs es ck): ∀(l:List AV) {us:List Value},VL ok w l ρ us→VL ok' w (rQ q ks vs l) ρ us
 |[],us,h=>by simpa only [pH,VL] using h
 |v::l,us,h=>by
  rw [nX]
  simp only [VL] at h ⊢
  obtain ⟨u,t,h1,h2,h3⟩:=h
  exact ⟨u,t,h1,V.frz S v h2,VL.frz S l h3⟩
end
theorem VAt.frz (S:Still ok ok' w ρ q r ks vs es ck): ∀(l:List AV) {b p:Nat},VAt ok w l ρ b p→VAt ok' w (rQ q ks vs l) ρ b p
 |[],_,_,_=>by simp only [pH,VAt]
 |v::l,b,p,h=>by
  rw [nX]
  simp only [VAt] at h ⊢
  obtain ⟨⟨u,h1,h2⟩,h3⟩:=h
  exact ⟨⟨u,h1,V.frz S v h2⟩,VAt.frz S l h3⟩
end
section
variable {C:Cx} {ok:Nat→Prop} {w:World} {ρ:Rho} {h:AH} {q:Nat} {ks vs:List AV}
theorem aaF (n:Nat):ae (vI q ks vs h) n=if n=q∧q<h.length then none else frzO q ks vs (ae h n):=by
 unfold vI
 rw [dj,dh,List.length_map]
 split
 ·rfl
 ·rw [bm,bm,List.getElem?_map]
  cases h[n]? <;>rfl
theorem aaw:(vI q ks vs h).length=h.length:=by
 unfold vI
 rw [cK,dh,List.length_map]
theorem afE (I:Inv C ok w ρ h) (hb:ae h q=some (.map ks vs)) (l1:ltL 0 ks=true) (l2:ltL 0 vs=true):
 ∃ok' r es ck,Still ok ok' w ρ q r ks vs es ck∧Ext ok w ρ h ok' w ρ (vI q ks vs h)∧Inv C ok' w ρ (vI q ks vs h):=by
 obtain ⟨r,h1,h2,es,ck,h3,h4,h5,h6⟩:=I.live q _ hb
 have hq:q<h.length:=cD (by rw [hb];simp)
 have nn: ∀n s,n<0→ρ n=some s→ρ0 n=some s:=fun n _ hn=>absurd hn (Nat.not_lt_zero n)
 have U:Up ok w ρ0 (fun b=>ok b∨b=r) w ρ0:=⟨fun _ _=>rfl,fun _ h=>.inl h,fun _ _ h=>h,fun _ _ h=>h⟩
 have S:Still ok (fun b=>ok b∨b=r) w ρ q r ks vs es ck:=⟨h1,fun _ h=>.inl h,.inr rfl,h3,VL.up ks U (VL.names ks nn l1 h4),VL.up vs U (VL.names vs nn l2 h5),h6⟩
 have alive: ∀n b,ae (vI q ks vs h) n=some b→n≠q∧ ∃b0,ae h n=some b0∧b=b0.frz q ks vs:=by
  intro n b e
  rw [aaF] at e
  split at e
  ·cases e
  ·next hn=>
   cases hh:ae h n with
   |none=>rw [hh] at e;cases e
   |some b0=>rw [hh] at e;cases e;exact ⟨fun c=>hn ⟨c,hq⟩,b0,rfl,rfl⟩
 have alive': ∀n,ae (vI q ks vs h) n≠none→n≠q∧ae h n≠none:=by
  intro n hn
  cases hh:ae (vI q ks vs h) n with
  |none=>exact absurd hh hn
  |some b=>
   obtain ⟨a,b0,c,_⟩:=alive n b hh
   exact ⟨a,by rw [c];simp⟩
 refine ⟨fun b=>ok b∨b=r,r,es,ck,S,⟨S.up,Nat.le_refl _,rfl,rfl,rfl,by rw [aaw];exact Nat.le_refl _,fun _ _ _=>rfl,fun b hbk=>?_,fun n _ hn=>(alive' n hn).2,fun _ _ h=>.inl h⟩,⟨fun b hbk=>?_,fun n s e=>?_,fun n b e=>?_,fun n m s hn hm e1 e2=>?_,I.zY S.up⟩⟩
 ·rcases hbk with hbk|rfl
  ·exact .inl hbk
  ·exact .inr (.inr ⟨q,by rw [hb];simp,h1⟩)
 ·rcases hbk with hbk|rfl
  ·exact I.okb b hbk
  ·exact (I.dom q b h1).2
 ·rw [aaw];exact I.dom n s e
 ·obtain ⟨hne,b0,e0,rfl⟩:=alive n b e
  obtain ⟨s,s1,s2,s3⟩:=I.live n b0 e0
  refine ⟨s,s1,?_,?_⟩
  ·rintro (c|c)
   ·exact s2 c
   ·subst c
    exact hne (I.inj n q s (by rw [e0];simp) (by rw [hb];simp) s1 h1)
  ·cases b0 with
   |cells cs yt=>
    obtain ⟨arr,et,fr,g1,g2,g3,g4⟩:=s3
    exact ⟨arr,et,fr,g1,g2,VAt.frz S cs g3,g4⟩
   |map a b=>
    obtain ⟨es',ck',g1,g2,g3,g4⟩:=s3
    exact ⟨es',ck',g1,VL.frz S a g2,VL.frz S b g3,g4⟩
   |rows z ll yt=>
    obtain ⟨g0,arr,et,fr,g1,g2,g3,g4⟩:=s3
    exact ⟨ub (pH _ _ _) (nX _ _ _) g0,arr,et,fr,g1,g2,by rw [qx (pH _ _ _) (nX _ _ _)];exact VAt.frz S _ g3,g4⟩
 ·exact I.inj n m s (alive' n hn).2 (alive' m hm).2 e1 e2
end
theorem iS {a b:List AV} (h:AV.same (.agg a) (.agg b)=true):a=b:=by
 have:=eI a b h
 exact this
theorem vV: ∀{a b:List (List AV)},mJ a b=true→a=b
 |[],[],_=>rfl
 |[],_::_,h=>by cases h
 |_::_,[],h=>by cases h
 |x::a,y::b,h=>by
  have h:and (AV.same (.agg x) (.agg y)) (mJ a b)=true:=h
  rw [Bool.and_eq_true] at h
  rw [iS h.1,vV h.2]
theorem acS {a b:Blk} (h:qo a b=true):a=b:=by
 cases a<;>cases b<;>try (cases h;done)
 ·have h:and (Nat.beq _ _) (AV.same (.agg _) (.agg _))=true:=h
  rw [Bool.and_eq_true] at h
  rw [iS h.2,Nat.eq_of_beq_eq_true h.1]
 ·have h:and (AV.same (.agg _) (.agg _)) (AV.same (.agg _) (.agg _))=true:=h
  rw [Bool.and_eq_true] at h
  rw [iS h.1,iS h.2]
 ·have h:and (and (Nat.beq _ _) (Nat.beq _ _)) (mJ _ _)=true:=h
  rw [Bool.and_eq_true,Bool.and_eq_true] at h
  rw [Nat.eq_of_beq_eq_true h.1.1,Nat.eq_of_beq_eq_true h.1.2,vV h.2]
theorem mT: ∀{a b:AH},gm a b=true→a=b
 |[],[],_=>rfl
 |[],none::_,h=>by cases h
 |[],some _::_,h=>by cases h
 |none::_,[],h=>by cases h
 |some _::_,[],h=>by cases h
 |none::a,none::b,h=>by rw [mT (show gm a b=true from h)]
 |none::_,some _::_,h=>by cases h
 |some _::_,none::_,h=>by cases h
 |some x::a,some y::b,h=>by
  have h:and (qo x y) (gm a b)=true:=h
  rw [Bool.and_eq_true] at h
  rw [acS h.1,mT h.2]
theorem nB {a b:AV} (h:AV.same a b=true):a=b:=by
 have:AV.same (.agg [a]) (.agg [b])=true:=by
  show and (AV.same a b) true=true
  rw [h];rfl
 have:=iS this
 simpa using this
theorem py: ∀{a b:Tm},jo a b=true→a=b
 | .nl,.nl,_=>rfl
 | .nl,.lf _ _,h=>by cases h
 | .nl,.nd _ _ _,h=>by cases h
 | .lf _ _,.nl,h=>by cases h
 | .lf _ _,.nd _ _ _,h=>by cases h
 | .nd _ _ _,.nl,h=>by cases h
 | .nd _ _ _,.lf _ _,h=>by cases h
 | .lf k v,.lf k' v',h=>by
   have h:and (Nat.beq k k') (AV.same v v')=true:=h
   rw [Bool.and_eq_true] at h
   rw [Nat.eq_of_beq_eq_true h.1,nB h.2]
 | .nd m a b,.nd m' a' b',h=>by
   have h:and (Nat.beq m m') (and (jo a a') (jo b b'))=true:=h
   rw [Bool.and_eq_true,Bool.and_eq_true] at h
   rw [Nat.eq_of_beq_eq_true h.1,py h.2.1,py h.2.2]
theorem aqW {s:St} {x:Option St} (h:isS s x=true):x=some s:=by
 cases x with
 |none=>cases h
 |some s'=>
  have h:and (jo s'.t s.t) (gm s'.h s.h)=true:=h
  rw [Bool.and_eq_true] at h
  obtain ⟨t,hh⟩:=s
  obtain ⟨t',hh'⟩:=s'
  simp only at h
  rw [py h.1,mT h.2]
def iq:List Bool→RT→Option St
 |[],.lf s=>some s
 |m::ms,.nd a b=>iq ms (if m=true then b else a)
 |_,_=>none
theorem pq {body:St→Option St}: ∀{a b:RT} {ms:List Bool} {s:St},lh body a b=true→iq ms a=some s→ ∃s',iq ms b=some s'∧body s=some s'
 | .lf s,.lf s',ms,x,h,e=>by
   cases ms with
   |nil=>cases e;exact ⟨s',rfl,aqW h⟩
   |cons m ms=>cases e
 | .lf _,.nd _ _,_,_,h,_=>by cases h
 | .nd _ _,.lf _,_,_,h,_=>by cases h
 | .nd a b,.nd a' b',ms,x,h,e=>by
   have h:and (lh body a a') (lh body b b')=true:=h
   rw [Bool.and_eq_true] at h
   cases ms with
   |nil=>cases e
   |cons m ms=>
    have e:iq ms (if m=true then b else a)=some x:=e
    show ∃s',iq ms (if m=true then b' else a')=some s'∧_
    cases m with
    |true=>exact pq h.2 e
    |false=>exact pq h.1 e
theorem yD {body:AV→AV→St→Option St}: ∀{ks vs:List AV} {t:RT} {ms:List Bool} {s:St} {i:Nat} {k v:AV},aaI body ks vs t=true→iq ms t=some s→ms[i]? =some false→ks[i]? =some k→vs[i]? =some v→
 ∃s',iq (ms.set i true) t=some s'∧body k v s=some s'
 |[],vs,t,ms,s,i,k,v,_,_,_,hk,_=>by simp at hk
 |_::_,[],t,ms,s,i,k,v,_,_,_,_,hv=>by simp at hv
 |_::_,_::_,.lf _,ms,s,i,k,v,h,_,_,_,_=>by cases h
 |k0::ks,v0::vs,.nd a b,ms,s,i,k,v,h,e,hm,hk,hv=>by
  have h:and (lh (body k0 v0) a b) (and (aaI body ks vs a) (aaI body ks vs b))=true:=h
  rw [Bool.and_eq_true,Bool.and_eq_true] at h
  cases ms with
  |nil=>cases e
  |cons m ms=>
   have e:iq ms (if m=true then b else a)=some s:=e
   cases i with
   |zero=>
    simp at hm hk hv
    subst hm;subst hk;subst hv
    obtain ⟨s',h1,h2⟩:=pq h.1 e
    exact ⟨s',h1,h2⟩
   |succ i=>
    have hm:ms[i]? =some false:=by simpa using hm
    have hk:ks[i]? =some k:=by simpa using hk
    have hv:vs[i]? =some v:=by simpa using hv
    rw [List.set_cons_succ]
    show ∃s',iq (ms.set i true) (if m=true then b else a)=some s'∧_
    cases m with
    |true=>exact yD h.2.2 e hm hk hv
    |false=>exact yD h.2.1 e hm hk hv
theorem aaW {body:AV→AV→St→Option St}: ∀{ks vs:List AV} {s:St} {t:RT},aqa body ks vs s=some t→iq (List.replicate ks.length false) t=some s
 |[],vs,s,t,e=>by cases e;rfl
 |k::ks,[],s,t,e=>by cases e
 |k::ks,v::vs,s,t,e=>by
  obtain ⟨a,e1,e⟩:=ag (show au (aqa body ks vs s) _=some t from e)
  obtain ⟨s',e2,e⟩:=ag e
  obtain ⟨b,e3,e⟩:=ag e
  cases e
  rw [List.length_cons,List.replicate_succ]
  exact aaW (ks:=ks) e1
theorem xG: ∀{t:RT} {ms:List Bool} {s:St},iq ms t=some s→(∀m∈ms,m=true)→xP t=s
 | .lf s',ms,s,e,_=>by
   cases ms with
   |nil=>cases e;rfl
   |cons m ms=>cases e
 | .nd a b,ms,s,e,h=>by
   cases ms with
   |nil=>cases e
   |cons m ms=>
    have:=h m (by simp)
    subst this
    exact xG (t:=b) (ms:=ms) e (fun x hx=>h x (by simp [hx]))
end Go.Proofs.YteapfopaiocpeaaGreatDoor
namespace Go.Proofs.YteapfopaiocpeaaGreatDoor
set_option linter.unusedSimpArgs false
set_option linter.unusedVariables false
set_option linter.unnecessarySimpa false
section
variable {P:Program} {Q:Exit→Act→World→Prop}
def pS (ops:Array Oper):Array Bool→List Nat→Prop
 |listed,[]=>Region.ready .any ops listed=[]
 |listed,x::r=>x∈Region.ready .any ops listed∧pS ops (listed.setIfInBounds x true) r
theorem vx {ops:Array Oper}: ∀{L:List Nat} {listed:Array Bool} {fuel:Nat} {a:Act} {w:World},pS ops listed L→L.length≤fuel→wpAny P .any ops Q fuel listed a w→wpOps P ops Q L a w
 |[],listed,fuel,a,w,hp,_,h=>by
  cases fuel with
  |zero=>exact h.2
  |succ fuel=>exact h.1 hp
 |x::L,listed,fuel,a,w,hp,hl,h=>by
  cases fuel with
  |zero=>simp at hl
  |succ fuel=>
   rw [wpOps_cons]
   exact wpOp_mono (fun a w h=>vx hp.2 (by simpa using hl) h) (h.2 x hp.1)
theorem anL {ops:Array Oper}: ∀(fuel t:Nat) (listed:Array Bool),listed.size=ops.toList.length→listed.toList.count false≤fuel→pS ops listed (Region.linearise.go .any ops fuel t listed [])∧(Region.linearise.go .any ops fuel t listed []).length≤fuel:=by
 intro fuel
 induction fuel with
 |zero=>
  intro t listed hs hc
  refine ⟨?_,by simp [Region.linearise.go]⟩
  show Region.ready .any ops listed=[]
  cases hr:Region.ready .any ops listed with
  |nil=>rfl
  |cons i r=>
   exfalso
   obtain ⟨h1,h2,_⟩:=kI hs (show i∈Region.ready .any ops listed by rw [hr];simp)
   have:=count_set _ _ (unl hs h1 h2)
   omega
 |succ fuel ih=>
  intro t listed hs hc
  simp only [Region.linearise.go]
  change pS ops listed (match (Region.ready .any ops listed)[t%(Region.ready .any ops listed).length]? with
   |some i=>Region.linearise.go .any ops fuel (t/(Region.ready .any ops listed).length) (listed.setIfInBounds i true) [i]
   |none=>[].reverse)∧(match (Region.ready .any ops listed)[t%(Region.ready .any ops listed).length]? with
   |some i=>Region.linearise.go .any ops fuel (t/(Region.ready .any ops listed).length) (listed.setIfInBounds i true) [i]
   |none=>[].reverse).length≤fuel+1
  cases hi:(Region.ready .any ops listed)[t%(Region.ready .any ops listed).length]? with
  |none=>
   have hnil:Region.ready .any ops listed=[]:=by
    cases hr:Region.ready .any ops listed with
    |nil=>rfl
    |cons x xs=>
     rw [hr] at hi
     have hlt:t%(x::xs).length<(x::xs).length:=Nat.mod_lt _ (by simp)
     simp at hi
     simp at hlt
     omega
   exact ⟨hnil,by simp⟩
  |some i=>
   have hm:=List.mem_of_getElem? hi
   obtain ⟨h1,h2,_⟩:=kI hs hm
   have hc':(listed.setIfInBounds i true).toList.count false≤fuel:=by
    have:=count_set _ _ (unl hs h1 h2)
    rw [Array.toList_setIfInBounds]
    omega
   obtain ⟨g1,g2⟩:=ih (t/(Region.ready .any ops listed).length) (listed.setIfInBounds i true) (by simpa using hs) hc'
   simp only []
   rw [linearise_go_acc,List.reverse_singleton,List.singleton_append]
   exact ⟨⟨hm,g1⟩,by simpa using g2⟩
theorem fG {ops:Array Oper} {listed:Array Bool} (hs:listed.size=ops.toList.length) {x:Nat}:x∈Region.ready .any ops listed↔ ∃o,ops.toList[x]? =some o∧ ¬Li listed x∧ ∀e∈o.after.toList,Region.binds .any e=true→Li listed e.on:=by
 unfold Region.ready Li
 rw [List.mem_filter,List.mem_range]
 constructor
 ·rintro ⟨h1,h2⟩
  rw [Bool.and_eq_true] at h2
  have hx:x<ops.toList.length:=by rw [Array.length_toList];exact h1
  refine ⟨ops.toList[x],List.getElem?_eq_getElem hx,?_,?_⟩
  ·intro c
   have:=h2.1
   rw [Array.getD_eq_getD_getElem?] at c this
   rw [Array.getElem?_eq_getElem (by omega)] at c this
   simp at c this
   rw [c] at this;cases this
  ·have h3:=h2.2
   rw [Array.getElem?_eq_getElem h1,Option.map_some,Option.getD_some,Array.all_eq_true'] at h3
   intro e he hb
   have:=h3 e (Array.mem_toList_iff.1 (by simpa using he))
   simpa [hb] using this
 ·rintro ⟨o,ho,h2,h3⟩
  have hx:x<ops.toList.length:=(List.getElem?_eq_some_iff.1 ho).1
  have hx':x<ops.size:=by rwa [Array.length_toList] at hx
  refine ⟨hx',?_⟩
  rw [Bool.and_eq_true]
  constructor
  ·rw [Array.getD_eq_getD_getElem?,Array.getElem?_eq_getElem (by omega)] at h2 ⊢
   simp at h2 ⊢
   exact h2
  ·rw [Array.getElem?_toList] at ho
   rw [ho,Option.map_some,Option.getD_some,Array.all_eq_true']
   intro e he
   cases hb:Region.binds .any e with
   |false=>rfl
   |true=>simpa using h3 e (Array.mem_toList_iff.2 he) hb
def uk (i j:Nat) (L:List Nat):Prop:=∀L1 L2,L=L1++j::L2→i∈L1
theorem uk.tail {i j x:Nat} {L:List Nat} (h:uk i j (x::L)):x=i∨uk i j L:=by
 by_cases e:x=i
 ·exact .inl e
 ·refine .inr fun L1 L2 c=>?_
  have:=h (x::L1) L2 (by rw [c];rfl)
  rcases List.mem_cons.1 this with rfl|h
  ·exact absurd rfl e
  ·exact h
theorem ajm {i j:Nat} (hij:i≠j) (L:List Nat):uk i j L∨uk j i L:=by
 induction L with
 |nil=>exact .inl fun L1 L2 c=>by simp at c
 |cons x L ih=>
  by_cases e:x=i
  ·left
   intro L1 L2 c
   cases L1 with
   |nil=>simp at c;omega
   |cons y L1=>simp at c;simp [←c.1,e]
  ·by_cases e':x=j
   ·right
    intro L1 L2 c
    cases L1 with
    |nil=>simp at c;omega
    |cons y L1=>simp at c;simp [←c.1,e']
   ·rcases ih with h|h
    ·left
     intro L1 L2 c
     cases L1 with
     |nil=>simp at c;omega
     |cons y L1=>simp at c;exact List.mem_cons_of_mem _ (h L1 L2 c.2)
    ·right
     intro L1 L2 c
     cases L1 with
     |nil=>simp at c;omega
     |cons y L1=>simp at c;exact List.mem_cons_of_mem _ (h L1 L2 c.2)
theorem nS {listed:Array Bool} {N x:Nat} (hs:listed.size=N) (hx:x<N) (q:Nat):Li (listed.setIfInBounds x true) q↔(Li listed q∨q=x):=ahZ hs hx q
theorem lj {ops:Array Oper} {i j x:Nat} {o:Oper} (ho:ops.toList[x]? =some o):(dH ops i j).toList[x]? =some (if x=j then vT o i else o):=by
 unfold dH
 rw [List.getElem?_set]
 have hx:=(List.getElem?_eq_some_iff.1 ho).1
 by_cases e:j=x
 ·subst e
  rw [if_pos rfl,if_pos hx,if_pos rfl,List.getD_eq_getElem?_getD,ho];rfl
 ·rw [if_neg e,if_neg (fun c=>e c.symm),ho]
theorem ja (ops:Array Oper) (i j:Nat):(dH ops i j).toList.length=ops.toList.length:=by unfold dH;simp
theorem apK {ops:Array Oper} {i j:Nat}: ∀{L:List Nat} {listed:Array Bool},listed.size=ops.toList.length→pS ops listed L→(Li listed i∨uk i j L)→pS (dH ops i j) listed L
 |[],listed,hs,hp,_=>by
  show Region.ready .any (dH ops i j) listed=[]
  have hp:Region.ready .any ops listed=[]:=hp
  cases hr:Region.ready .any (dH ops i j) listed with
  |nil=>rfl
  |cons x r=>
   exfalso
   have hm:x∈Region.ready .any (dH ops i j) listed:=by rw [hr];simp
   obtain ⟨o,ho,h2,h3⟩:=(fG (by rw [ja];exact hs)).1 hm
   have hx:x<ops.toList.length:=by rw [←ja ops i j];exact (List.getElem?_eq_some_iff.1 ho).1
   have hg:=lj (i:=i) (j:=j) (List.getElem?_eq_getElem hx)
   rw [ho] at hg
   have:x∈Region.ready .any ops listed:=(fG hs).2 ⟨ops.toList[x],List.getElem?_eq_getElem hx,h2,fun e he hb=>by
    refine h3 e ?_ hb
    rw [Option.some.inj hg]
    split
    ·unfold vT;simp;exact .inl (by simpa using he)
    ·exact he⟩
   rw [hp] at this;cases this
 |x::L,listed,hs,hp,hc=>by
  obtain ⟨h1,h2⟩:=hp
  obtain ⟨o,ho,k2,k3⟩:=(fG hs).1 h1
  have hx:=(List.getElem?_eq_some_iff.1 ho).1
  refine ⟨(fG (by rw [ja];exact hs)).2 ⟨_,lj ho,k2,fun e he hb=>?_⟩,apK (by simpa using hs) h2 ?_⟩
  ·split at he
   ·rename_i e0
    unfold vT at he
    simp at he
    rcases he with he|rfl
    ·exact k3 e (by simpa using he) hb
    ·rcases hc with hc|hc
     ·exact hc
     ·have:=hc [] L (by simp [e0])
      cases this
   ·exact k3 e he hb
  ·rcases hc with hc|hc
   ·exact .inl ((nS hs hx i).2 (.inl hc))
   ·rcases hc.tail with rfl|h
    ·exact .inl ((nS hs hx _).2 (.inr rfl))
    ·exact .inr h
theorem pf {ops ops':Array Oper} (f:Nat→Nat) (hg: ∀o∈ops.toList,o.guard=none) (h: ∀(x:Nat) o,ops.toList[x]? =some o→ ∃af,ops'.toList[f x]? =some {o with after:=af}):
 ∀{L:List Nat} {a:Act} {w:World},(∀x∈L,x<ops.toList.length)→wpOps P ops' Q (L.map f) a w→wpOps P ops Q L a w
 |[],a,w,_,hw=>hw
 |x::L,a,w,hl,hw=>by
  rw [List.map_cons,wpOps_cons] at hw
  rw [wpOps_cons]
  have hx:=hl x (by simp)
  have ho:ops.toList[x]? =some ops.toList[x]:=List.getElem?_eq_getElem hx
  obtain ⟨af,ho'⟩:=h x _ ho
  have gx:=hg _ (List.mem_of_getElem? ho)
  unfold wpOp at hw ⊢
  rw [Array.getElem?_toList] at ho ho'
  rw [ho'] at hw
  rw [ho]
  generalize ops.toList[x]=o at*
  have w1:Region.wanted o (yielded ops a.tmps)=true:=by unfold Region.wanted;rw [gx]
  have w2:Region.wanted {o with after:=af} (yielded ops' a.tmps)=true:=by unfold Region.wanted;simp only [gx]
  simp only [w1,w2,if_true] at hw ⊢
  rcases hw with hw|hw
  ·left
   have hw:o.wp P a w (wpOps P ops' Q (L.map f)) Q:=hw
   exact Oper.wp_mono (fun a w h'=>pf f hg h (fun y hy=>hl y (List.mem_cons_of_mem _ hy)) h') hw
  ·exact .inr hw
theorem afa {ops:Array Oper}: ∀{L:List Nat} {listed:Array Bool},listed.size=ops.toList.length→pS ops listed L→ ∀x∈L,x<ops.toList.length
 |[],_,_,_,x,hx=>by cases hx
 |y::L,listed,hs,hp,x,hx=>by
  rcases List.mem_cons.1 hx with rfl|hx
  ·exact (kI hs hp.1).1
  ·exact afa (by simpa using hs) hp.2 x hx
theorem abP (i n q:Nat):mvP i n q=if q=i then n-1 else if i<q then q-1 else q:=by
 unfold mvP
 by_cases h:q=i
 ·subst h;rw [Nat.beq_refl,aw,if_pos rfl];rfl
 ·have h1:Nat.beq q i=false:=by rw [Bool.eq_false_iff];intro c;exact h (Nat.eq_of_beq_eq_true c)
  rw [h1,ay,if_neg h]
  by_cases h2:i<q
  ·rw [if_pos h2,show Nat.blt i q=true from Nat.ble_eq_true_of_le h2];rfl
  ·rw [if_neg h2,show Nat.blt i q=false by rw [Bool.eq_false_iff];intro c;exact h2 (Nat.le_of_ble_eq_true c)];rfl
theorem aco (i n p:Nat):mvB i n p=if p<i then p else if p+1<n then p+1 else i:=by
 unfold mvB
 by_cases h:p<i
 ·rw [if_pos h,show Nat.blt p i=true from Nat.ble_eq_true_of_le h];rfl
 ·rw [if_neg h,show Nat.blt p i=false by rw [Bool.eq_false_iff];intro c;exact h (Nat.le_of_ble_eq_true c),ay]
  by_cases h2:p+1<n
  ·rw [if_pos h2,show Nat.blt (Nat.succ p) n=true from Nat.ble_eq_true_of_le h2];rfl
  ·rw [if_neg h2,show Nat.blt (Nat.succ p) n=false by rw [Bool.eq_false_iff];intro c;exact h2 (Nat.le_of_ble_eq_true c)];rfl
theorem ah9 {i n q:Nat} (hi:i<n) (hq:q<n):mvP i n q<n:=by rw [abP];split<;>(try split)<;>omega
theorem aiT {i n p:Nat} (hi:i<n) (hp:p<n):mvB i n p<n:=by rw [aco];split<;>(try split)<;>omega
theorem ajp {i n q:Nat} (hi:i<n) (hq:q<n):mvB i n (mvP i n q)=q:=by
 rw [aco,abP]
 by_cases h:q=i
 ·subst h;rw [if_pos rfl,if_neg (by omega),if_neg (by omega)]
 ·rw [if_neg h]
  by_cases h2:i<q
  ·rw [if_pos h2,if_neg (by omega),if_pos (by omega)];omega
  ·rw [if_neg h2,if_pos (by omega)]
theorem al4 {i n p:Nat} (hi:i<n) (hp:p<n):mvP i n (mvB i n p)=p:=by
 rw [abP,aco]
 by_cases h:p<i
 ·rw [if_pos h,if_neg (by omega),if_neg (by omega)]
 ·rw [if_neg h]
  by_cases h2:p+1<n
  ·rw [if_pos h2,if_neg (by omega),if_pos (by omega)];omega
  ·rw [if_neg h2,if_pos rfl];omega
theorem jc (ops:Array Oper) (i j:Nat):(dI ops i j).toList.length=ops.toList.length:=by unfold dI;simp
theorem kV {ops:Array Oper} {i j x:Nat} (hi:i<ops.toList.length) {o:Oper} (ho:ops.toList[x]? =some o):
 (dI ops i j).toList[mvP i ops.toList.length x]? =some (if x=i then vT (mvO i ops.toList.length o) (mvP i ops.toList.length j) else mvO i ops.toList.length o):=by
 have hx:=(List.getElem?_eq_some_iff.1 ho).1
 unfold dI
 rw [List.getElem?_map,List.getElem?_range (ah9 hi hx),Option.map_some]
 unfold mvA
 rw [ajp hi hx,List.getD_eq_getElem?_getD,ho,Option.getD_some]
 by_cases h:x=i
 ·subst h;rw [Nat.beq_refl,aw,if_pos rfl]
 ·have h1:Nat.beq x i=false:=by rw [Bool.eq_false_iff];intro c;exact h (Nat.eq_of_beq_eq_true c)
  rw [h1,ay,if_neg h]
theorem xZ {i n:Nat} {o:Oper} {e:Edge}:e∈(mvO i n o).after.toList↔ ∃e0∈o.after.toList,e={e0 with on:=mvP i n e0.on}:=by
 unfold mvO
 simp only [List.mem_map]
 constructor
 ·rintro ⟨e0,h1,h2⟩;exact ⟨e0,h1,h2.symm⟩
 ·rintro ⟨e0,h1,h2⟩;exact ⟨e0,h1,h2.symm⟩
theorem apq {ops:Array Oper} {i j:Nat} (hi:i<ops.toList.length) (hj:j<ops.toList.length) (hE: ∀o∈ops.toList,∀e∈o.after.toList,Region.binds .any e=true→e.on<ops.toList.length):
 ∀{L:List Nat} {listed listed2:Array Bool},listed.size=ops.toList.length→listed2.size=ops.toList.length→(∀q,q<ops.toList.length→(Li listed2 (mvP i ops.toList.length q)↔Li listed q))→pS ops listed L→(Li listed j∨uk j i L)→pS (dI ops i j) listed2 (L.map (mvP i ops.toList.length))
 |[],listed,listed2,hs,hs2,hR,hp,_=>by
  show Region.ready .any (dI ops i j) listed2=[]
  have hp:Region.ready .any ops listed=[]:=hp
  cases hr:Region.ready .any (dI ops i j) listed2 with
  |nil=>rfl
  |cons p r=>
   exfalso
   have hm:p∈Region.ready .any (dI ops i j) listed2:=by rw [hr];simp
   obtain ⟨o,ho,h2,h3⟩:=(fG (by rw [jc];exact hs2)).1 hm
   have hpn:p<ops.toList.length:=by rw [←jc ops i j];exact (List.getElem?_eq_some_iff.1 ho).1
   have hx:=aiT hi hpn
   have ho0:ops.toList[mvB i ops.toList.length p]? =some ops.toList[mvB i ops.toList.length p]:=List.getElem?_eq_getElem hx
   have hg:=kV (j:=j) hi ho0
   rw [al4 hi hpn,ho] at hg
   have:mvB i ops.toList.length p∈Region.ready .any ops listed:=(fG hs).2 ⟨_,ho0,fun c=>h2 (by
    have:=(hR _ hx).2 c
    rwa [al4 hi hpn] at this),fun e he hb=>by
    have hon:=hE _ (List.mem_of_getElem? ho0) e he hb
    refine (hR _ hon).1 ?_
    have hm2:({e with on:=mvP i ops.toList.length e.on}:Edge)∈o.after.toList:=by
     rw [Option.some.inj hg]
     split
     ·unfold vT
      exact List.mem_append_left _ (xZ.2 ⟨e,he,rfl⟩)
     ·exact xZ.2 ⟨e,he,rfl⟩
    exact h3 _ hm2 hb⟩
   rw [hp] at this;cases this
 |x::L,listed,listed2,hs,hs2,hR,hp,hc=>by
  obtain ⟨h1,h2⟩:=hp
  obtain ⟨o,ho,k2,k3⟩:=(fG hs).1 h1
  have hx:=(List.getElem?_eq_some_iff.1 ho).1
  refine ⟨(fG (by rw [jc];exact hs2)).2 ⟨_,kV (j:=j) hi ho,fun c=>k2 ((hR x hx).1 c),fun e he hb=>?_⟩,apq hi hj hE (by simpa using hs) (by simpa using hs2) (fun q hq=>?_) h2 ?_⟩
  ·have old: ∀e∈(mvO i ops.toList.length o).after.toList,Region.binds .any e=true→Li listed2 e.on:=by
    intro e he hb
    obtain ⟨e0,he0,rfl⟩:=xZ.1 he
    have hb0:Region.binds .any e0=true:=hb
    exact (hR _ (hE _ (List.mem_of_getElem? ho) e0 he0 hb0)).2 (k3 e0 he0 hb0)
   split at he
   ·rename_i e0
    unfold vT at he
    rcases List.mem_append.1 he with he|he
    ·exact old e he hb
    ·rw [List.mem_singleton] at he
     subst he
     refine (hR j hj).2 ?_
     rcases hc with hc|hc
     ·exact hc
     ·have:=hc [] L (by simp [e0])
      cases this
   ·exact old e he hb
  ·rw [nS hs2 (ah9 hi hx),nS hs hx,hR q hq]
   constructor
   ·rintro (h|h)
    ·exact .inl h
    ·right
     have:=congrArg (mvB i ops.toList.length) h
     rwa [ajp hi hq,ajp hi hx] at this
   ·rintro (h|h)
    ·exact .inl h
    ·exact .inr (by rw [h])
  ·rcases hc with hc|hc
   ·exact .inl ((nS hs hx j).2 (.inl hc))
   ·rcases hc.tail with rfl|h
    ·exact .inl ((nS hs hx _).2 (.inr rfl))
    ·exact .inr h
variable {C:Cx} {ok:Nat→Prop} {w:World} {ρ:Rho} {h:AH} {run:Run}
theorem ajS (X:aX P C) (H:dg P C run) {id:Nat} {ops:Array Oper} {n:Nat} {ps:List Nat} {i j:Nat} (hok:zt C ops i j=true) (hb: ∀o∈ops.toList,opB n o=true) {T:Tms} {a:Act} (I:Inv C ok w ρ h) (TT:TOk ok w ρ ps n T a.tmps) {T':Tms} {h':AH}
 (e1:jR C run (flL ps (dH ops i j).toList) T (bC C (dH ops i j).toList (bM (dH ops i j).toList) 0 (aV C (dH ops i j).toList [] (dH ops i j).toList)) (bo C (dH ops i j)) h=some (.st T' h'))
 (e2:jR C run (flL ps (dI ops i j).toList) T (bC C (dI ops i j).toList (bM (dI ops i j).toList) 0 (aV C (dI ops i j).toList [] (dI ops i j).toList)) (bo C (dI ops i j)) h=some (.st T' h'))
 (Q:Exit→Act→World→Prop) (hQ: ∀a' w' ok' ρ',Ext ok w ρ h ok' w' ρ' h'→Inv C ok' w' ρ' h'→TOk ok' w' ρ' ps n T' a'.tmps→a'.defers=a.defers→Q .normal a' w'):
 (Code.region id ops true).wp P Q a w:=by
 unfold zt at hok
 simp only [Bool.and_eq_true] at hok
 obtain ⟨⟨⟨⟨h1,h2⟩,h3⟩,h4⟩,h5⟩:=hok
 have h1:i<j:=Nat.le_of_ble_eq_true h1
 have h2:j<ops.toList.length:=Nat.le_of_ble_eq_true h2
 have h3:=List.all_eq_true.1 h3
 have hgd: ∀o∈ops.toList,o.guard=none:=fun o ho=>by
  have:=h3 o ho
  rw [Bool.and_eq_true] at this
  simpa using this.1
 have hE: ∀o∈ops.toList,∀e∈o.after.toList,Region.binds .any e=true→e.on<ops.toList.length:=fun o ho e he hb=>by
  have:=h3 o ho
  rw [Bool.and_eq_true] at this
  have:=List.all_eq_true.1 this.2 e he
  rw [hb] at this
  simpa using this
 have hi:i<ops.toList.length:=by omega
 refine wp_region_draw fun t=>?_
 simp only [Region.schedule,X.mixed,Bool.true_or,if_true]
 have hs:(Array.replicate ops.size false).size=ops.toList.length:=by simp
 obtain ⟨p1,p2⟩:=anL (ops:=ops) ops.size t (Array.replicate ops.size false) hs (by rw [Array.toList_replicate];simp)
 have lt:=afa hs p1
 show wpOps P ops Q (Region.linearise.go .any ops ops.size t (Array.replicate ops.size false) []) a _
 generalize Region.linearise.go .any ops ops.size t (Array.replicate ops.size false) []=L at p1 p2 lt
 rcases ajm (show i≠j by omega) L with hA|hA
 ·have q:=apK hs p1 (.inr hA)
  have wa:=pG X H h4 (fun o ho=>by
   obtain ⟨x,hx⟩:=List.getElem?_of_mem ho
   have hx':x<ops.toList.length:=by rw [←ja ops i j];exact (List.getElem?_eq_some_iff.1 hx).1
   have hg:=lj (i:=i) (j:=j) (List.getElem?_eq_getElem hx')
   rw [hx] at hg
   rw [Option.some.inj hg]
   have:=hb _ (List.getElem_mem hx')
   split<;>exact this) I TT e1 Q hQ
  have sz:(dH ops i j).size=ops.size:=by
   have:=ja ops i j
   rwa [Array.length_toList,Array.length_toList] at this
  rw [sz] at wa
  have:=vx q p2 wa
  refine pf (ops':=dH ops i j) (fun x=>x) hgd (fun x o ho=>?_) lt (by rw [List.map_id'];exact this)
  refine ⟨(if x=j then vT o i else o).after,?_⟩
  rw [lj ho]
  by_cases hx:x=j
  ·rw [if_pos hx];rfl
  ·rw [if_neg hx]
 ·have q:=apq (listed2:=Array.replicate ops.size false) hi h2 hE hs hs (fun q hq=>by
   have hn: ∀t,¬Li (Array.replicate ops.size false) t:=by
    intro t h
    unfold Li at h
    rw [Array.getD_eq_getD_getElem?,Array.getElem?_replicate] at h
    split at h<;>simp at h
   exact ⟨fun h=>absurd h (hn _),fun h=>absurd h (hn _)⟩) p1 (.inr hA)
  have wa:=pG X H h5 (fun o ho=>by
   obtain ⟨p,hp⟩:=List.getElem?_of_mem ho
   have hp':p<ops.toList.length:=by rw [←jc ops i j];exact (List.getElem?_eq_some_iff.1 hp).1
   have hx:=aiT hi hp'
   have hg:=kV (j:=j) hi (List.getElem?_eq_getElem hx)
   rw [al4 hi hp',hp] at hg
   rw [Option.some.inj hg]
   have:=hb _ (List.getElem_mem hx)
   split<;>exact this) I TT e2 Q hQ
  have sz:(dI ops i j).size=ops.size:=by
   have:=jc ops i j
   rwa [Array.length_toList,Array.length_toList] at this
  rw [sz] at wa
  have:=vx q (by simpa using p2) wa
  refine pf (ops':=dI ops i j) (mvP i ops.toList.length) hgd (fun x o ho=>?_) lt this
  refine ⟨(if x=i then vT (mvO i ops.toList.length o) (mvP i ops.toList.length j) else mvO i ops.toList.length o).after,?_⟩
  rw [kV (j:=j) hi ho]
  by_cases hx:x=i
  ·rw [if_pos hx];rfl
  ·rw [if_neg hx];rfl
end
end Go.Proofs.YteapfopaiocpeaaGreatDoor
namespace Go.Proofs.YteapfopaiocpeaaGreatDoor
set_option linter.unusedSimpArgs false
set_option linter.unusedVariables false
set_option linter.unnecessarySimpa false
def Ex.to:Ex→Exit
 | .nrm=>.normal
 | .exit i=>.exit i
 | .ret=>.ret
def apI (D:Nat):Deferred:={target:=.collected D,args:= #[]}
structure Mark (nb:Nat) (ok:Nat→Prop) (w:World) (ρ:Rho) (h:AH) (D:Nat):Prop where
 low:nb≤D
 at_:w.heap[D]? =some (.deferred (some []))
 nok: ¬ok D
 free: ∀n,ae h n≠none→ρ n≠some D
def Marks (nb:Nat) (ok:Nat→Prop) (w:World) (ρ:Rho) (h:AH) (ds:List Deferred):Prop:=∃l:List Nat,ds=l.map apI∧l.Nodup∧ ∀D∈l,Mark nb ok w ρ h D
theorem Marks.nil (nb:Nat) (ok:Nat→Prop) (w:World) (ρ:Rho) (h:AH):Marks nb ok w ρ h []:=⟨[],rfl,List.nodup_nil,fun _ h=>nomatch h⟩
theorem Mark.ext {nb:Nat} {C:Cx} {ok:Nat→Prop} {w:World} {ρ:Rho} {h:AH} {ok':Nat→Prop} {w':World} {ρ':Rho} {h':AH} {D:Nat} (I:Inv C ok w ρ h) (E:Ext ok w ρ h ok' w' ρ' h') (m:Mark nb ok w ρ h D):Mark nb ok' w' ρ' h' D:=by
 have hD:D<w.heap.size:=(Array.getElem?_eq_some_iff.1 m.at_).1
 refine ⟨m.low,by rw [E.keep D hD m.free];exact m.at_,fun hk=>?_,fun n hn e=>?_⟩
 ·rcases E.oknew D hk with hk|hk|⟨n,hn,en⟩
  ·exact m.nok hk
  ·omega
  ·exact m.free n hn en
 ·rcases E.rnew n D e with e1|⟨_,⟨k,hk,ek⟩|hs⟩
  ·have hnl:=(I.dom n D e1).1
   exact m.free n (E.alive n hnl hn) e1
  ·exact m.free k hk ek
  ·omega
theorem Marks.ext {nb:Nat} {C:Cx} {ok:Nat→Prop} {w:World} {ρ:Rho} {h:AH} {ok':Nat→Prop} {w':World} {ρ':Rho} {h':AH} {ds:List Deferred} (m:Marks nb ok w ρ h ds) (I:Inv C ok w ρ h) (E:Ext ok w ρ h ok' w' ρ' h'):Marks nb ok' w' ρ' h' ds:=by
 obtain ⟨l,h1,h2,h3⟩:=m
 exact ⟨l,h1,h2,fun D hD=>(h3 D hD).ext I E⟩
theorem Marks.adw {nb:Nat} {ok:Nat→Prop} {w:World} {ρ:Rho} {h:AH} {w':World} {ds:List Deferred} {r:Nat} (m:Marks nb ok w ρ h ds) (hk: ∀k,k≠r→w'.heap[k]? =w.heap[k]?) (hr:w.heap[r]? ≠some (.deferred (some []))):Marks nb ok w' ρ h ds:=by
 obtain ⟨l,h1,h2,h3⟩:=m
 exact ⟨l,h1,h2,fun D hD=>⟨(h3 D hD).low,by rw [hk D (fun e=>hr (e▸(h3 D hD).at_))];exact (h3 D hD).at_,(h3 D hD).nok,(h3 D hD).free⟩⟩
theorem Marks.names {nb:Nat} {ok:Nat→Prop} {w:World} {ρ ρ':Rho} {h h':AH} {ds:List Deferred} (m:Marks nb ok w ρ h ds) (hs: ∀n D,ae h' n≠none→ρ' n=some D→ae h n≠none∧ρ n=some D):Marks nb ok w ρ' h' ds:=by
 obtain ⟨l,h1,h2,h3⟩:=m
 exact ⟨l,h1,h2,fun D hD=>⟨(h3 D hD).low,(h3 D hD).at_,(h3 D hD).nok,fun n hn e=>(h3 D hD).free n (hs n D hn e).1 (hs n D hn e).2⟩⟩
structure SOk (nb:Nat) (C:Cx) (ok:Nat→Prop) (w:World) (ρ:Rho) (ps:List Nat) (n:Nat) (s:St) (a:Act):Prop where
 inv:Inv C ok w ρ s.h
 tm:TOk ok w ρ ps n s.t a.tmps
 df:Marks nb ok w ρ s.h a.defers
 nl:nb≤w.heap.size
def jX (nb:Nat) (C:Cx) (ok:Nat→Prop) (w:World) (ρ:Rho) (ps:List Nat) (n:Nat) (h:AH) (ex:Ex) (s':St):Exit→Act→World→Prop:=
 fun e a' w'=>e=ex.to∧ ∃ok' ρ',Ext ok w ρ h ok' w' ρ' s'.h∧SOk nb C ok' w' ρ' ps n s' a'
def mK (P:Program) (c:Code) (Q:Exit→Act→World→Prop) (a:Act) (w:World):Prop:=
 ∀(b:Frame) (k:List Item) (cs:List Frame),∃e a' w',Q e a' w'∧Arrives P (lone (b.at a (.code c:: .inLoop c::k)) cs w) b k cs e a' w'
theorem mK.wp {P:Program} {c:Code} {Q:Exit→Act→World→Prop} {a:Act} {w:World} (h:mK P c Q a w):(Code.loop c).wp P Q a w:=
 fun b k cs=>let ⟨e,a',w',q,r⟩:=h b k cs;⟨e,a',w',q,.of_steps (.one step_loop) r⟩
theorem lE {P:Program} {c:Code} {Q:Exit→Act→World→Prop} {a:Act} {w:World} (h:c.wp P (Exit.then (mK P c Q) Q) a w):mK P c Q a w:=by
 intro b k cs
 obtain ⟨e,a₁,w₁,hq,harr⟩:=h b (.inLoop c::k) cs
 cases e with
 |normal=>
  obtain ⟨e₂,a₂,w₂,hq₂,harr₂⟩:=hq b k cs
  exact ⟨e₂,a₂,w₂,hq₂,.of_steps (Steps.trans harr (.one step_inLoop)) harr₂⟩
 |exit id=>exact ⟨_,a₁,w₁,hq,.pass (x:=.inLoop c) rfl (fun _ _=>.inl (by simp)) harr⟩
 |goto l=>exact ⟨_,a₁,w₁,hq,.pass (x:=.inLoop c) rfl (fun _ _=>.inl (by simp)) harr⟩
 |ret=>exact ⟨_,a₁,w₁,hq,.pass (x:=.inLoop c) rfl (fun _ _=>.inl (by simp)) harr⟩
 |panic ch=>exact ⟨_,a₁,w₁,hq,.pass (x:=.inLoop c) rfl (fun _ _=>.inl (by simp)) harr⟩
 |outgrown=>exact ⟨_,a₁,w₁,hq,.pass (x:=.inLoop c) rfl (fun _ _=>.inl (by simp)) harr⟩
def afn (P:Program) (C:Cx) (lp:Lp):Prop:=∀(nb:Nat) c ps n s ex s',lp (comp C ps c) s=some (ex,s')→dx n c=true→ ∀ok w ρ a,SOk nb C ok w ρ ps n s a→mK P c (jX nb C ok w ρ ps n s.h ex s') a w
section
variable {nb:Nat} {P:Program} {C:Cx} {run:Run} {lp:Lp}
theorem jX.trans {ok:Nat→Prop} {w:World} {ρ:Rho} {ps:List Nat} {n:Nat} {s s1 s':St} {a:Act} (S:SOk nb C ok w ρ ps n s a) {ok1:Nat→Prop} {w1:World} {ρ1:Rho} (E:Ext ok w ρ s.h ok1 w1 ρ1 s1.h) {ex:Ex} {e:Exit} {a':Act} {w':World}
 (p:jX nb C ok1 w1 ρ1 ps n s1.h ex s' e a' w'):jX nb C ok w ρ ps n s.h ex s' e a' w':=by
 obtain ⟨h1,ok',ρ',E',S'⟩:=p
 exact ⟨h1,ok',ρ',Ext.trans S.inv E E',S'⟩
theorem kA {x:Option Rs} {ex:Ex} {s':St} (e:fC x=some (ex,s')):ex= .nrm∧x=some (.st s'.t s'.h):=by
 obtain ⟨r,h1,h2⟩:=ag e
 cases r with
 |st t h=>cases h2;exact ⟨rfl,h1⟩
 |vh v h=>cases h2
theorem xm {b:Kr} {x:Ex×St} {r:Ex×St} (e:uo b x=some r):(x.1= .nrm∧b x.2=some r)∨(x.1≠ .nrm∧x=r):=by
 obtain ⟨ex,s⟩:=x
 cases ex with
 |nrm=>exact .inl ⟨rfl,e⟩
 |exit i=>cases e;exact .inr ⟨by simp,rfl⟩
 |ret=>cases e;exact .inr ⟨by simp,rfl⟩
theorem lA {ex:Ex} (hx:ex≠ .nrm) {next:Act→World→Prop} {Q:Exit→Act→World→Prop} {a:Act} {w:World} (h:Q ex.to a w):Exit.then next Q ex.to a w:=by
 cases ex with
 |nrm=>exact absurd rfl hx
 |exit i=>exact h
 |ret=>exact h
end
end Go.Proofs.YteapfopaiocpeaaGreatDoor
namespace Go.Proofs.YteapfopaiocpeaaGreatDoor
set_option linter.unusedSimpArgs false
set_option linter.unusedVariables false
set_option linter.unnecessarySimpa false
open Go.ChangeMaps (setBlock)
section
variable {nb:Nat} {P:Program} {C:Cx} {run:Run}
theorem ad8 (X:aX P C) (H:dg P C run) {ops:Array Oper} {n:Nat} (hb: ∀o∈ops.toList,opB n o=true) (T:Tms) {rs:Rs} {fin:List AV→AH→Option Rs}: ∀(l r:List Oper) (k:Nat) {ok:Nat→Prop} {w:World} {ρ:Rho} {h:AH} {ds:List (Option Nat)} {σ:List AV} {a:Act},
 ops.toList.drop k=l++r→n≤a.tmps.size→Inv C ok w ρ h→RI ok w ρ ds σ T a.tmps→vH C run T (aV C ops.toList ds l) fin σ h=some rs→
 ∀Q tl,(∀a' w' ok' ρ' σ' h',fin σ' h'=some rs→Ext ok w ρ h ok' w' ρ' h'→Inv C ok' w' ρ' h'→RI ok' w' ρ' ((l.map (·.dst)).reverse++ds) σ' T a'.tmps→a'.tmps.size=a.tmps.size→a'.defers=a.defers→wpOps P ops Q tl a' w')→wpOps P ops Q (List.range' k l.length++tl) a w
 |[],r,k,ok,w,ρ,h,ds,σ,a,hk,hs,I,R,e=>by
  intro Q tl hQ
  exact hQ a w ok ρ σ h e (Ext.refl _ _ _ _) I R rfl rfl
 |o::l,r,k,ok,w,ρ,h,ds,σ,a,hk,hs,I,R,e=>by
  have hko:ops[k]? =some o:=by
   rw [←Array.getElem?_toList]
   have:=congrArg (·[0]?) hk
   simpa using this
  have hmem:o∈ops.toList:=List.mem_of_getElem? (by rw [Array.getElem?_toList];exact hko)
  have hk':ops.toList.drop (k+1)=l++r:=by
   have:=congrArg (·.drop 1) hk
   simpa [Nat.add_comm] using this
  have e:(jP C ops.toList ds o).f C run σ T h (fun v=>vH C run T (aV C ops.toList (o.dst::ds) l) fin (v::σ))=some rs:=e
  obtain ⟨v,h1,e1,k1⟩:=te X H I hko (fun x _=>R.operand I x) e
  have hD: ∀d,o.dst=some d→d<a.tmps.size:=by
   intro d hd
   have:=hb o hmem
   unfold opB at this
   rw [hd] at this
   have:d<n:=by simpa [Nat.blt_eq] using this
   exact Nat.lt_of_lt_of_le this hs
  intro Q tl hQ
  show wpOps P ops Q (k::(List.range' (k+1) l.length++tl)) a w
  rw [wpOps_cons]
  refine k1 _ Q (fun u w1 ok1 ρ1 E1 I1 V1=>?_)
  refine ad8 X H hb T l r (k+1) hk' (by rw [(eL a o.dst u).1];exact hs) I1 ((R.up E1.up).push V1 hD) e1 Q tl (fun a' w' ok' ρ' σ' h' q1 q2 q3 q4 q5 q6=>?_)
  refine hQ a' w' ok' ρ' σ' h' q1 (Ext.trans I E1 q2) q3 ?_ (q5.trans (eL a o.dst u).1) (q6.trans (eL a o.dst u).2)
  simpa using q4
theorem Ext.dead {ok:Nat→Prop} {w:World} {ρ:Rho} {h:AH} (I:Inv C ok w ρ h) {w':World} {o:Obj} (hh:w'.heap=w.heap.push o) (h1:w'.os=w.os) (h2:w'.tape=w.tape) (h3:w'.output=w.output):
 Ext ok w ρ h ok w' (cu ρ h.length w.heap.size) (aJ h [none])∧Inv C ok w' (cu ρ h.length w.heap.size) (aJ h [none]):=by
 have same: ∀r,r<w.heap.size→w'.heap[r]? =w.heap[r]? :=fun r hr=>by rw [hh,Array.getElem?_push,if_neg (by omega)]
 have old: ∀n r,ρ n=some r→cu ρ h.length w.heap.size n=some r:=fun n r e=>by
  have:=(I.dom n r e).1
  unfold cu;rw [if_neg (by omega)];exact e
 have U:Up ok w ρ ok w' (cu ρ h.length w.heap.size):=by
  refine ⟨fun r hr=>same r (I.okb r hr),fun _ h=>h,fun r s hs=>?_,old⟩
  rw [dZ (same r ?_)];exact hs
  rcases Nat.lt_or_ge r w.heap.size with l|l
  ·exact l
  ·simp [World.shape?,Array.getElem?_eq_none l] at hs
 have lenE:(aJ h [none]).length=h.length+1:=by rw [fS];rfl
 have get: ∀n,ae (aJ h [none]) n=ae h n:=by
  intro n
  rw [cH]
  split
  ·rfl
  ·next hn=>
   have a:ae h n=none:=by rw [bm,List.getElem?_eq_none (by omega)];rfl
   rw [a]
   cases hm:n-h.length with
   |zero=>rfl
   |succ m=>rfl
 have back: ∀n r,cu ρ h.length w.heap.size n=some r→ρ n=some r∨(n=h.length∧r=w.heap.size):=by
  intro n r e
  unfold cu at e
  split at e
  ·next en=>cases e;exact .inr ⟨en,rfl⟩
  ·exact .inl e
 refine ⟨⟨U,by rw [hh];simp,h1,h2,h3,by rw [lenE];omega,fun r hr _=>same r hr,fun _ h=>.inl h,fun n _ e=>by rw [get] at e;exact e,fun n r e=>?_⟩,⟨fun r hr=>?_,fun n r e=>?_,fun n b e=>?_,fun n m r hn hm e1 e2=>?_,I.zY U⟩⟩
 ·rcases back n r e with e|⟨rfl,rfl⟩
  ·exact .inl e
  ·exact .inr ⟨Nat.le_refl _,.inr (Nat.le_refl _)⟩
 ·have:=I.okb r hr;rw [hh];simp;omega
 ·rcases back n r e with e|⟨rfl,rfl⟩
  ·have:=I.dom n r e;rw [lenE,hh];simp;omega
  ·rw [lenE,hh];simp
 ·rw [get] at e
  obtain ⟨r,r1,r2,r3⟩:=I.live n b e
  exact ⟨r,old n r r1,r2,r3.up U (same r (I.dom n r r1).2)⟩
 ·rw [get] at hn hm
  have a: ∀n,ae h n≠none→cu ρ h.length w.heap.size n=some r→ρ n=some r:=by
   intro n hn e
   rcases back n r e with e|⟨rfl,_⟩
   ·exact e
   ·exact absurd (cD hn) (by omega)
  exact I.inj n m r hn hm (a n hn e1) (a m hm e2)
theorem nh (f:Nat→AV→AV): ∀(t:Tm) (i:Nat),tin (sQ f t) i=tin t i
 | .nl,_=>rfl
 | .lf k v,i=>rfl
 | .nd m l r,i=>by
   show bq (Nat.ble m i) (tin (sQ f r) i) (tin (sQ f l) i)=bq (Nat.ble m i) (tin r i) (tin l i)
   rw [nh f r i,nh f l i]
theorem iO (f:Nat→AV→AV): ∀(t:Tm) (i:Nat),aW (sQ f t) i=bq (tin t i) (f i (aW t i)) .bot
 | .nl,_=>rfl
 | .lf k v,i=>by
   show bq (Nat.beq i k) (f k v) .bot=bq (Nat.beq i k) (f i (bq (Nat.beq i k) v .bot)) .bot
   cases hk:Nat.beq i k with
   |false=>rfl
   |true=>rw [Nat.eq_of_beq_eq_true hk];rfl
 | .nd m l r,i=>by
   show bq (Nat.ble m i) (aW (sQ f r) i) (aW (sQ f l) i)=bq (bq (Nat.ble m i) (tin r i) (tin l i)) (f i (bq (Nat.ble m i) (aW r i) (aW l i))) .bot
   cases hm:Nat.ble m i with
   |true=>exact iO f r i
   |false=>exact iO f l i
theorem uA {p:AV→Bool} (hp:p .bot=true): ∀(t:Tm),aoK p t=true→ ∀i,p (aW t i)=true
 | .nl,_,_=>hp
 | .lf k v,h,i=>by
   show p (bq (Nat.beq i k) v .bot)=true
   cases Nat.beq i k with
   |true=>exact h
   |false=>exact hp
 | .nd m l r,h,i=>by
   have h:and (aoK p l) (aoK p r)=true:=h
   rw [Bool.and_eq_true] at h
   show p (bq (Nat.ble m i) (aW r i) (aW l i))=true
   cases Nat.ble m i with
   |true=>exact uA hp r h.2 i
   |false=>exact uA hp l h.1 i
theorem aks {ok:Nat→Prop} {w:World} {ρ:Rho} {h:AH} (I:Inv C ok w ρ h) {ps:List Nat} {n:Nat} {ok1:Nat→Prop} {w1:World} {ρ1:Rho} {s s':St} {a:Act} (E:Ext ok w ρ h ok1 w1 ρ1 s.h) (S:SOk nb C ok1 w1 ρ1 ps n s a) {kp:Bool} {it:Nat} {t0:Tms}
 (e:akN kp it t0 h.length s=some s'):(∃ρ2,Ext ok w ρ h ok1 w1 ρ2 s'.h∧SOk nb C ok1 w1 ρ2 ps n s' a∧(∀n r,n<h.length→ρ1 n=some r→ρ2 n=some r)∧(∀n r,ρ2 n=some r→n<h.length∧ρ1 n=some r))∧
  s'.h.length=h.length∧(tin s.t it=true→aW s'.t it=aW t0 it)∧(∀i,aW t0 i= .bot→aW s'.t i= .bot)∧(∀i,tin s'.t i=tin s.t i):=by
 obtain ⟨e1,e2⟩:=ax (show bq _ _ none=some s' from e)
 cases e2
 rw [Bool.and_eq_true,Bool.and_eq_true,aM] at e1
 obtain ⟨⟨e3,e4⟩,e5⟩:=e1
 obtain ⟨ρ2,E2,I2,sub,sub'⟩:=aaz I E S.inv e5
 have same:=nB e3
 have get: ∀i,aW (sQ (fun k v=>bq (or (AV.same (aW t0 k) v) (and kp (not (AV.same .bot (aW t0 k))))) v .bot) s.t) i=bq (tin s.t i) (bq (or (AV.same (aW t0 i) (aW s.t i)) (and kp (not (AV.same .bot (aW t0 i))))) (aW s.t i) .bot) .bot:=fun i=>iO _ _ _
 refine ⟨⟨ρ2,by rw [aM];exact E2,⟨by rw [aM];exact I2,⟨S.tm.size,fun i hi=>S.tm.inn i (by rw [nh] at hi;exact hi),S.tm.low,fun i=>?_⟩,S.df.names fun n D hn e=>⟨by
  have:=(sub' n D e).1
  rw [show (cm h.length s.h)=s.h.take h.length from aM _ _,bm,List.getElem?_take_of_lt this,←bm] at hn
  exact hn,(sub' n D e).2⟩,S.nl⟩,sub,sub'⟩,?_,fun hi=>?_,fun i h0=>?_,fun i=>nh _ _ _⟩
 ·have lt:=uA (p:=AV.lt h.length) rfl _ e4 i
  refine V.names (k:=h.length) _ (fun n r hn=>sub n r hn) lt ?_
  rw [get]
  cases tin s.t i with
  |false=>simp only [ay,V]
  |true=>
   rw [aw]
   cases or (AV.same (aW t0 i) (aW s.t i)) (and kp (not (AV.same .bot (aW t0 i)))) with
   |false=>simp only [ay,V]
   |true=>exact S.tm.get i
 ·rw [aM,List.length_take];have:=E.len;omega
 ·show aW (sQ _ s.t) it=_
  rw [get,hi,e3];exact same.symm
 ·show aW (sQ _ s.t) i=_
  rw [get]
  cases tin s.t i with
  |false=>rfl
  |true=>
   rw [aw]
   cases hs:AV.same (aW t0 i) (aW s.t i) with
   |false=>
    rw [h0]
    cases kp<;>rfl
   |true=>exact (nB hs).symm.trans h0
structure Shape (nx en:Array Oper) (it q c e:Nat):Prop where
 nx: ∃n1 n2,nx= #[n1,n2]∧n1.dst=some q∧n1.op= .next (.tmp it) false∧n1.guard=none∧n2.dst=some c∧n2.op= .extract (.tmp q) 0∧n2.guard=none
 en: ∃e1 r,en.toList=e1::r∧e1.dst=some e∧e1.op= .entry (.tmp it)∧e1.guard=none
 itq:it≠q
 itc:it≠c
theorem pO {ops:Array Oper} {Q:Exit→Act→World→Prop} {i:Nat} {o:Oper} (hi:ops[i]? =some o) (hg:o.guard=none) {a:Act} {w w':World} {v:Value} (hr:(execOp a.eval o).run P w= .ok (.value v) w') {K:Act→World→Prop} (hk:K (a.put o.dst v) w'):wpOp P ops Q i K a w:=by
 unfold wpOp
 rw [hi]
 simp only [Region.wanted,hg,if_true]
 refine .inl ?_
 unfold Oper.wp
 rw [hr]
 exact hk
theorem SOk.put {ok:Nat→Prop} {w:World} {ρ:Rho} {ps:List Nat} {n:Nat} {s:St} {a:Act} (S:SOk nb C ok w ρ ps n s a) {d:Nat} {u:Value} (hd:aW s.t d= .bot):SOk nb C ok w ρ ps n s (a.put (some d) u):=by
 refine ⟨S.inv,⟨?_,S.tm.inn,S.tm.low,fun i=>?_⟩,S.df,S.nl⟩
 ·show n≤(a.tmps.setIfInBounds d u).size
  simpa using S.tm.size
 ·show V ok w (aW s.t i) ρ ((a.tmps.setIfInBounds d u).getD i undef)
  rw [jg]
  split
  ·next h=>rw [←h.1,hd];simp only [V]
  ·exact S.tm.get i
end
end Go.Proofs.YteapfopaiocpeaaGreatDoor
namespace Go.Proofs.YteapfopaiocpeaaGreatDoor
set_option linter.unusedSimpArgs false
set_option linter.unusedVariables false
set_option linter.unnecessarySimpa false
open Go.ChangeMaps (setBlock)
section
variable {nb:Nat} {P:Program} {C:Cx} {run:Run} {kp:Bool}
theorem oR {ok:Nat→Prop} {w w':World} {ρ:Rho} {h:AH} {r:Nat} (I:Inv C ok w ρ h) (hs:w'.heap.size=w.heap.size) (hk: ∀k,k≠r→w'.heap[k]? =w.heap[k]?) (hsh:w.shape? r=none) (hn: ¬ok r) (hf: ∀m,ae h m≠none→ρ m≠some r):
 Up ok w ρ ok w' ρ∧Inv C ok w' ρ h:=by
 have U:Up ok w ρ ok w' ρ:=by
  refine ⟨fun b hb=>hk b (fun c=>hn (c▸hb)),fun _ h=>h,fun b s hb=>?_,fun _ _ h=>h⟩
  by_cases hbr:b=r
  ·subst hbr;rw [hsh] at hb;cases hb
  ·rw [dZ (hk b hbr)];exact hb
 refine ⟨U,⟨fun b hb=>by rw [hs];exact I.okb b hb,fun m b e=>by rw [hs];exact I.dom m b e,fun m b e=>?_,I.inj,I.zY U⟩⟩
 obtain ⟨s,s1,s2,s3⟩:=I.live m b e
 exact ⟨s,s1,s2,s3.up U (hk s (fun c=>hf m (by rw [e];simp) (by rw [s1,c])))⟩
theorem nA {okB:Nat→Prop} {wB:World} {ρB:Rho} {hB:AH} {ok:Nat→Prop} {w w':World} {ρ:Rho} {h:AH} {r:Nat} (IB:Inv C okB wB ρB hB) (B:Ext okB wB ρB hB ok w ρ h) (hr:wB.heap.size≤r) (U:Up ok w ρ ok w' ρ)
 (hs:w'.heap.size=w.heap.size) (hk: ∀k,k≠r→w'.heap[k]? =w.heap[k]?) (h1:w'.os=w.os) (h2:w'.tape=w.tape) (h3:w'.output=w.output):Ext okB wB ρB hB ok w' ρ h:=by
 refine ⟨⟨fun b hb=>?_,B.up.oku,fun b s hb=>U.shp b s (B.up.shp b s hb),B.up.nam⟩,by rw [hs];exact B.size,h1.trans B.os,h2.trans B.tape,h3.trans B.output,B.len,fun b hb hn=>?_,B.oknew,B.alive,B.rnew⟩
 ·have:=IB.okb b hb
  rw [hk b (by omega)];exact B.up.okb b hb
 ·rw [hk b (by omega)];exact B.keep b hb hn
structure aim (nb:Nat) (C:Cx) (okB:Nat→Prop) (wB:World) (ρB:Rho) (hB:AH) (ps:List Nat) (n it q c N r mr ck n0:Nat) (es:Array MapEntry) (ks vs:List AV) (tr:RT) (ms:List Bool) (s:St) (ok:Nat→Prop) (w:World) (ρ:Rho) (a:Act):Prop where
 S:SOk nb C ok w ρ ps n s a
 B:Ext okB wB ρB hB ok w ρ s.h
 len:s.h.length=n0
 tq:aW s.t q= .bot
 tc:aW s.t c= .bot
 ti:aW s.t it= .pto N 0
 tn:tin s.t it=true
 nam:ρ N=some r
 itr: ∃seen c0,w.heap[r]? =some (.mapIter (some mr) ck seen c0)∧ck≤c0∧ ∀(i:Nat) (x:MapEntry),es.toList[i]? =some x→ms[i]? =some (seen.contains x.born)
 mp:w.heap[mr]? =some (.map es ck)
 okm:ok mr
 nok: ¬ok r
 free: ∀m,ae s.h m≠none→ρ m≠some r
 keys:VL ok w ks ρ0 (es.toList.map (·.key))
 vals:VL ok w vs ρ0 (es.toList.map (·.val))
 ml:ms.length=es.size
 leaf:iq ms tr=some s
theorem adC {ok:Nat→Prop} {w:World} {ρ:Rho} {cs:List AV} {us:List Value} {i:Nat} {u:Value} (h:VL ok w cs ρ us) (e:us[i]? =some u): ∃c,cs[i]? =some c∧V ok w c ρ u:=by
 have hi:=(List.getElem?_eq_some_iff.1 e).1
 have hl:=bQ h
 have hc:i<cs.length:=by omega
 obtain ⟨u',h1,h2⟩:=pn h (List.getElem?_eq_getElem hc)
 rw [e] at h1
 cases h1
 exact ⟨_,List.getElem?_eq_getElem hc,h2⟩
set_option maxHeartbeats 1000000 in
theorem ajQ (X:aX P C) (H:dg P C run) {ps:List Nat} {n it q c e:Nat} {nx en:Array Oper} (sh:Shape nx en it q c e) (hbn: ∀o∈nx.toList,opB n o=true) (hbe: ∀o∈en.toList,opB n o=true) {id1 id2 jn je:Nat} {rest:Code} {kr:Kr}
 (KR: ∀{s:St} {ex:Ex} {s':St},kr s=some (ex,s')→ ∀{ok:Nat→Prop} {w:World} {ρ:Rho} {a:Act},SOk nb C ok w ρ ps n s a→rest.wp P (jX nb C ok w ρ ps n s.h ex s') a w)
 {okB:Nat→Prop} {wB:World} {ρB:Rho} {hB:AH} (IB:Inv C okB wB ρB hB) {N r mr ck n0:Nat} (hr:wB.heap.size≤r) {es:Array MapEntry} (st:vQ es ck) {ks vs:List AV} {tr:RT} {t0:Tms} (t0q:aW t0 q= .bot) (t0c:aW t0 c= .bot) (t0i:aW t0 it= .pto N 0)
 (okT:aaI (aeo kp C run kr (aV C en.toList [some e] en.toList.tail) (flL ps en.toList) id2 it t0 n0) ks vs tr=true)
 {ms:List Bool} {s:St} {ok:Nat→Prop} {w:World} {ρ:Rho} {a:Act} (L:aim nb C okB wB ρB hB ps n it q c N r mr ck n0 es ks vs tr ms s ok w ρ a) (QL:Exit→Act→World→Prop)
 (done: ∀a' w',(∀m∈ms,m=true)→aim nb C okB wB ρB hB ps n it q c N r mr ck n0 es ks vs tr ms s ok w' ρ a'→QL (.exit id1) a' w')
 (next: ∀i s' ok' w' ρ' a',ms[i]? =some false→aim nb C okB wB ρB hB ps n it q c N r mr ck n0 es ks vs tr (ms.set i true) s' ok' w' ρ' a'→QL .normal a' w'):
 (Code.seq (.region jn nx false) (.seq (.cond (.tmp c) .skip (.exit id1)) (.block id2 (.seq (.region je en false) rest)))).wp P QL a w:=by
 obtain ⟨⟨n1,n2,rfl,a1,a2,a3,b1,b2,b3⟩,⟨e1,etl,hen,c1,c2,c3⟩,itq,itc⟩:=sh
 obtain ⟨dst1,op1,ty1,pos1,af1,g1⟩:=n1
 obtain ⟨dst2,op2,ty2,pos2,af2,g2⟩:=n2
 simp only at a1 a2 a3 b1 b2 b3
 subst a1 a2 a3 b1 b2 b3
 have hq:q<n:=by have:=hbn ⟨some q,.next (.tmp it) false,ty1,pos1,af1,none⟩ (by simp);simpa [opB,Nat.blt_eq] using this
 have hc:c<n:=by have:=hbn ⟨some c,.extract (.tmp q) 0,ty2,pos2,af2,none⟩ (by simp);simpa [opB,Nat.blt_eq] using this
 obtain ⟨seen,c0,ir,ic,im⟩:=L.itr
 have hev:a.eval (.tmp it)= .pointer (some ⟨r,0,none⟩):=by
  have:=L.S.tm.get it
  rw [L.ti] at this
  simp only [V] at this
  obtain ⟨r',r1,r2⟩:=this
  rw [L.nam] at r1
  cases r1
  exact r2
 have hsz:=L.S.tm.size
 -- the first region, whatever comes
 have R4: ∀(b:Bool) (v:Array Value) (w2:World) (Q:Exit→Act→World→Prop),v[0]? =some (.bool b)→(Instr.next (.pointer (some ⟨r,0,none⟩)) false ty1).run P w= .ok (.tuple v) w2→Q .normal ((a.put (some q) (.tuple v)).put (some c) (.bool b)) w2→
  (Code.region jn #[⟨some q,.next (.tmp it) false,ty1,pos1,af1,none⟩,⟨some c,.extract (.tmp q) 0,ty2,pos2,af2,none⟩] false).wp P Q a w:=by
  intro b v w2 Q hv hrun hQ
  refine wp_region ?_
  show wpOps P _ Q [0,1] a w
  rw [wpOps_cons]
  refine pO (o:=⟨some q,.next (.tmp it) false,ty1,pos1,af1,none⟩) (v:=.tuple v) (w':=w2) rfl rfl ?_ ?_
  ·show ((do pure (.value (←Instr.next (a.eval (.tmp it)) false ty1)):Sem Next)).run P w=_
   rw [hev]
   simp [hrun]
  ·rw [wpOps_cons]
   refine pO (o:=⟨some c,.extract (.tmp q) 0,ty2,pos2,af2,none⟩) (v:=.bool b) (w':=w2) rfl rfl ?_ hQ
   show ((do pure (.value (←Instr.extract ((a.put (some q) (.tuple v)).eval (.tmp q)) 0)):Sem Next)).run P w2=_
   have:(a.put (some q) (.tuple v)).eval (.tmp q)= .tuple v:=by
    show (a.tmps.setIfInBounds q (.tuple v)).getD q undef=_
    rw [jg,if_pos ⟨rfl,by omega⟩]
   rw [this]
   simp [Instr.extract,hv]
 have evc: ∀(b:Bool) (v:Value),((a.put (some q) v).put (some c) (.bool b)).eval (.tmp c)= .bool b:=by
  intro b v
  show ((a.tmps.setIfInBounds q v).setIfInBounds c (.bool b)).getD c undef=_
  rw [jg,if_pos ⟨rfl,by simp;omega⟩]
 have put: ∀{w2:World} (b:Bool) (v:Value),SOk nb C ok w2 ρ ps n s a→SOk nb C ok w2 ρ ps n s ((a.put (some q) v).put (some c) (.bool b)):=fun b v h=>(h.put L.tq).put L.tc
 rcases run_next_at (P:=P) w ty1 r mr ck c0 seen es ck ir L.mp (fun x hx=>st.1 x hx) ic with ⟨h0,hrun⟩|⟨x,hx,w1,hw1,hrun⟩
 ·--nothing is left
  refine wp_seq (R4 false _ w _ rfl hrun ?_)
  refine wp_seq (wp_cond_false (evc false _) (wp_exit ?_))
  refine done _ w (fun m hm=>?_) ⟨put _ _ L.S,L.B,L.len,L.tq,L.tc,L.ti,L.tn,L.nam,L.itr,L.mp,L.okm,L.nok,L.free,L.keys,L.vals,L.ml,L.leaf⟩
  obtain ⟨i,hi,rfl⟩:=List.getElem_of_mem hm
  have hie:i<es.toList.length:=by rw [Array.length_toList,←L.ml];exact hi
  have h1:=im i _ (List.getElem?_eq_getElem hie)
  rw [all_seen es seen h0 _ (List.getElem_mem hie),List.getElem?_eq_getElem hi] at h1
  simpa using h1
 ·--an entry comes
  obtain ⟨hxm,hxs⟩:=mem_left hx
  obtain ⟨i,hi,hix⟩:=List.getElem_of_mem hxm
  have hxi:es.toList[i]? =some x:=by rw [List.getElem?_eq_getElem hi,hix]
  have hmi:ms[i]? =some false:=by rw [im i x hxi,hxs]
  obtain ⟨kk,hk1,hk2⟩:=adC L.keys (show (es.toList.map (·.key))[i]? =some x.key by rw [List.getElem?_map,hxi];rfl)
  obtain ⟨vv,hv1,hv2⟩:=adC L.vals (show (es.toList.map (·.val))[i]? =some x.val by rw [List.getElem?_map,hxi];rfl)
  obtain ⟨s',lf',hbody⟩:=yD okT L.leaf hmi hk1 hv1
  obtain ⟨w2,hw2⟩: ∃w2,setBlock w1 r (.mapIter (some mr) ck (seen.push x.born) ck)=w2:=⟨_,rfl⟩
  rw [hw2] at hrun
  have hrlt:r<w.heap.size:=(L.S.inv.dom N r L.nam).2
  have hwh:w1.heap=w.heap∧w1.os=w.os∧w1.tape=w.tape∧w1.output=w.output:=by rcases hw1 with rfl|rfl<;>exact ⟨rfl,rfl,rfl,rfl⟩
  have hs2:w2.heap.size=w.heap.size:=by rw [←hw2];simp [setBlock,hwh.1]
  have hk2': ∀k,k≠r→w2.heap[k]? =w.heap[k]? :=by
   intro k hk
   rw [←hw2]
   simp [setBlock,hwh.1,Array.getElem?_setIfInBounds,Ne.symm hk]
  have hr2:w2.heap[r]? =some (.mapIter (some mr) ck (seen.push x.born) ck):=by
   rw [←hw2]
   simp [setBlock,hwh.1,hrlt]
  have hos:w2.os=w.os∧w2.tape=w.tape∧w2.output=w.output:=by rw [←hw2];exact hwh.2
  have hne:mr≠r:=fun hh=>L.nok (hh▸L.okm)
  obtain ⟨U2,I2⟩:=oR L.S.inv hs2 hk2' (by simp [World.shape?,ir]) L.nok L.free
  have B2:=nA IB L.B hr U2 hs2 hk2' hos.1 hos.2.1 hos.2.2
  have T2:SOk nb C ok w2 ρ ps n s a:=⟨I2,⟨L.S.tm.size,L.S.tm.inn,L.S.tm.low,fun i=>V.up _ U2 (L.S.tm.get i)⟩,L.S.df.adw hk2' (by rw [ir];simp),by rw [hs2];exact L.S.nl⟩
  have mp2:w2.heap[mr]? =some (.map es ck):=(hk2' mr hne).trans L.mp
  refine wp_seq (R4 true _ w2 _ rfl hrun ?_)
  refine wp_seq (wp_cond_true (evc true _) (wp_skip ?_))
  obtain ⟨a2,ha2⟩: ∃a2,(a.put (some q) (.tuple #[.bool true,x.key,x.val])).put (some c) (.bool true)=a2:=⟨_,rfl⟩
  rw [ha2]
  have S2:SOk nb C ok w2 ρ ps n s a2:=by rw [←ha2];exact put _ _ T2
  have hev2:a2.eval (.tmp it)= .pointer (some ⟨r,0,none⟩):=by
   have:=S2.tm.get it
   rw [L.ti] at this
   simp only [V] at this
   obtain ⟨r',r1,r2⟩:=this
   rw [L.nam] at r1
   cases r1
   exact r2
  -- the evaluator's round
  obtain ⟨rs,q1,q2⟩:=ag (show au _ _=some s' from hbody)
  cases rs with
  |vh v h=>cases q2
  |st T3 h3=>
  obtain ⟨⟨ex,s4⟩,q3,q4⟩:=ag (show au (kr ⟨T3,h3⟩) _=some s' from q2)
  obtain ⟨s5,q5,q6⟩:=ag q4
  rw [←L.len] at q6
  -- the round's end
  have fin: ∀(ok':Nat→Prop) (w':World) (ρ':Rho) (a':Act),Ext ok w2 ρ s.h ok' w' ρ' s4.h→SOk nb C ok' w' ρ' ps n s4 a'→s5=s4→QL .normal a' w':=by
   rintro ok' w' ρ' a' E' S' rfl
   obtain ⟨⟨ρ2,E3,S3,sub,sub'⟩,l3,i3,bot3,tin3⟩:=aks I2 E' S' q6
   have hN:=(I2.dom N r L.nam).1
   have ρ2N:ρ2 N=some r:=sub N r hN (E'.up.nam N r L.nam)
   have tn4:tin s5.t it=true:=by
    by_cases hh:tin s5.t it=true
    ·exact hh
    ·exfalso
     have hh:tin s5.t it=false:=by simpa using hh
     obtain ⟨z1,_⟩:=ax (show bq _ _ none=some s' from q6)
     rw [Bool.and_eq_true,Bool.and_eq_true] at z1
     have:=nB z1.1.1
     rw [gV _ _ hh,t0i] at this
     cases this
   have back: ∀m,ae s'.h m≠none→ρ2 m≠some r:=by
    intro m hm e
    obtain ⟨ml,me⟩:=sub' m r e
    have hm':ae s.h m≠none:=E3.alive m ml hm
    rcases E'.rnew m r me with e1|⟨e1,_⟩
    ·exact L.free m hm' e1
    ·omega
   have nok': ¬ok' r:=by
    intro hk
    rcases E'.oknew r hk with hk|hk|⟨m,hm,em⟩
    ·exact L.nok hk
    ·omega
    ·exact L.free m hm em
   have keepr:w'.heap[r]? =w2.heap[r]? :=E'.keep r (by omega) L.free
   have Uk:Up ok w2 ρ0 ok' w' ρ0:=E'.up.pure
   refine next i s' ok' w' ρ2 a' hmi ⟨S3,Ext.trans IB B2 E3,l3.trans L.len,bot3 q t0q,bot3 c t0c,(i3 tn4).trans t0i,by rw [tin3];exact tn4,ρ2N,⟨seen.push x.born,ck,keepr.trans hr2,Nat.le_refl _,fun j y hy=>?_⟩,(E'.up.okb mr L.okm).trans mp2,E'.up.oku mr L.okm,nok',back,VL.up ks (Up.mk (fun b hb=>(E'.up.okb b hb).trans (U2.okb b hb)) E'.up.oku (fun b s hb=>E'.up.shp b s (U2.shp b s hb)) (fun _ _ h=>h)) L.keys,VL.up vs (Up.mk (fun b hb=>(E'.up.okb b hb).trans (U2.okb b hb)) E'.up.oku (fun b s hb=>E'.up.shp b s (U2.shp b s hb)) (fun _ _ h=>h)) L.vals,by simpa using L.ml,lf'⟩
   rw [contains_push]
   have hj:=(List.getElem?_eq_some_iff.1 hy).1
   have hmj:=im j y hy
   rw [List.getElem?_set]
   have hjl:j<ms.length:=by rw [L.ml];simpa using hj
   by_cases hij:i=j
   ·subst hij
    rw [hxi] at hy
    cases hy
    simp [hjl]
   ·rw [if_neg hij,hmj]
    have:y.born≠x.born:=by
     intro hb
     have h1:(es.toList.map (·.born))[i]? =some x.born:=by rw [List.getElem?_map,hxi];rfl
     have h2:(es.toList.map (·.born))[j]? =some x.born:=by rw [List.getElem?_map,hy];simp [hb]
     exact hij ((List.getElem?_inj (by simpa using hi) st.2).1 (h1.trans h2.symm))
    simp [this]
  -- the round's own code
  refine wp_block (wp_seq (wp_region ?_))
  have hsize:List.range en.size=0::List.range' 1 etl.length:=by
   rw [←Array.length_toList,hen,List.length_cons,List.range_eq_range',List.range'_succ]
  rw [hsize,wpOps_cons]
  have he0:en[0]? =some e1:=by rw [←Array.getElem?_toList,hen];rfl
  have hbe1:e<n:=by have:=hbe e1 (by rw [hen];simp);unfold opB at this;rw [c1] at this;simpa [Nat.blt_eq] using this
  refine pO (o:=e1) (v:=.tuple #[x.key,x.val]) (w':=w2) he0 c3 ?_ ?_
  ·have:execOp a2.eval e1=(do pure (.value (←Instr.entry (a2.eval (.tmp it)))):Sem Next):=by
    obtain ⟨d,o,t,p,f,g⟩:=e1
    simp only at c2
    subst c2
    rfl
   rw [this,hev2]
   have:=run_entry_at (P:=P) w2 r mr ck seen es ck x hr2 mp2 hxm st.2
   simp [this]
  ·rw [c1]
   have ktup:V ok w2 (.tup [kk,vv]) ρ (.tuple #[x.key,x.val]):=by
    simp only [V]
    refine ⟨_,rfl,?_⟩
    simp only [VL]
    have U0:Up ok w ρ0 ok w2 ρ:=⟨U2.okb,U2.oku,U2.shp,fun _ _ h=>by cases h⟩
    exact ⟨_,_,rfl,V.up kk U0 hk2,_,_,rfl,V.up vv U0 hv2,rfl⟩
   have hD: ∀d,some e=some d→d<a2.tmps.size:=by
    intro d hd
    cases hd
    exact Nat.lt_of_lt_of_le hbe1 S2.tm.size
   have R:=(S2.tm.ri).push ktup hD
   have hdrop:en.toList.drop 1=etl:=by rw [hen];rfl
   have htail:en.toList.tail=etl:=by rw [hen];rfl
   rw [htail] at q1
   refine yV X H hbe (flL ps en.toList) s.t etl 1 hdrop (by rw [(eL a2 (some e) _).1];exact S2.tm.size) I2 R q1 _ (fun a' w' ok' ρ' σ' h' z1 z2 z3 z4 z5 z6=>?_)
   cases z1
   have z4:RI ok' w' ρ' (en.toList.map (·.dst)).reverse σ' s.t a'.tmps:=by rw [hen,List.map_cons,List.reverse_cons,c1];exact z4
   have hsz':n≤a'.tmps.size:=by rw [z5,(eL a2 (some e) _).1];exact S2.tm.size
   have S5:SOk nb C ok' w' ρ' ps n ⟨bZ σ' s.t (flL ps en.toList),h3⟩ a':=by
    refine ⟨z3,?_,by rw [z6];exact S2.df.ext I2 z2,Nat.le_trans S2.nl z2.size⟩
    unfold flL
    exact z4.flush hsz' S2.tm.inn S2.tm.low
   refine wp_mono (KR q3 S5) ?_
   rintro ex' a6 w6 ⟨rfl,ok6,ρ6,E6,S6⟩
   have E26:Ext ok w2 ρ s.h ok6 w6 ρ6 s4.h:=Ext.trans I2 z2 E6
   cases ex with
   |nrm=>cases q5;exact fin ok6 w6 ρ6 a6 E26 S6 rfl
   |ret=>cases q5
   |exit j=>
    obtain ⟨y1,y2⟩:=ax (show bq (Nat.beq j id2) (some s4) none=some s5 from q5)
    cases y2
    have:=Nat.eq_of_beq_eq_true y1
    subst this
    show (if j=j then _ else _)
    rw [if_pos rfl]
    exact fin ok6 w6 ρ6 a6 E26 S6 rfl
end
end Go.Proofs.YteapfopaiocpeaaGreatDoor
namespace Go.Proofs.YteapfopaiocpeaaGreatDoor
set_option linter.unusedSimpArgs false
set_option linter.unusedVariables false
set_option linter.unnecessarySimpa false
section
variable {nb:Nat} {P:Program} {C:Cx} {run:Run} {kp:Bool}
theorem wA {kr:Kr} {q c:Nat} {ent:List OK} {fl1:List (Nat×Nat)} {id it N:Nat} {ks vs:List AV} {t:Tms} {h:AH} {r:Rs} (e:aew C run kr q c ent fl1 id it N ks vs t h=some r): ∃kp,ahj kp C run kr q c ent fl1 id it N ks vs t h=some r:=by
 unfold aew at e
 cases e1:ahj true C run kr q c ent fl1 id it N ks vs t h with
 |none=>rw [e1] at e;exact ⟨false,e⟩
 |some x=>rw [e1] at e;exact ⟨true,e1.trans e⟩
theorem oN (q c:Nat) (t:Tms):aW (eP q c t) q= .bot∧aW (eP q c t) c= .bot∧(∀i,tin (eP q c t) i=tin t i)∧ ∀i,aW (eP q c t) i=aW t i∨aW (eP q c t) i= .bot:=by
 have set: ∀(t:Tms) (i:Nat),aW (iM t i .bot) i= .bot:=by
  intro t i
  cases h:tin t i with
  |true=>exact eo t i _ h
  |false=>exact gV _ _ (by rw [gK];exact h)
 have other: ∀(t:Tms) (i j:Nat),aW (iM t i .bot) j=aW t j∨aW (iM t i .bot) j= .bot:=by
  intro t i j
  by_cases h:j=i
  ·subst h;exact .inr (set t j)
  ·exact .inl (dG t i _ j h)
 refine ⟨?_,set _ _,fun i=>by unfold eP;rw [gK,gK],fun i=>?_⟩
 ·rcases other (iM t q .bot) c q with h|h
  ·exact h.trans (set t q)
  ·exact h
 ·rcases other (iM t q .bot) c i with h|h
  ·rcases other t q i with h'|h'
   ·exact .inl (h.trans h')
   ·exact .inr (h.trans h')
  ·exact .inr h
theorem aol (X:aX P C) (H:dg P C run) {ps:List Nat} {n it q c e:Nat} {nx en:Array Oper} (sh:Shape nx en it q c e) (hbn: ∀o∈nx.toList,opB n o=true) (hbe: ∀o∈en.toList,opB n o=true) {id1 id2 jn je:Nat} {rest:Code} {kr:Kr}
 (KR: ∀{s:St} {ex:Ex} {s':St},kr s=some (ex,s')→ ∀{ok:Nat→Prop} {w:World} {ρ:Rho} {a:Act},SOk nb C ok w ρ ps n s a→rest.wp P (jX nb C ok w ρ ps n s.h ex s') a w)
 {okB:Nat→Prop} {wB:World} {ρB:Rho} {hB:AH} (IB:Inv C okB wB ρB hB) {N r mr ck n0:Nat} (hr:wB.heap.size≤r) {es:Array MapEntry} (st:vQ es ck) {ks vs:List AV} {tr:RT} {t0:Tms} (t0q:aW t0 q= .bot) (t0c:aW t0 c= .bot) (t0i:aW t0 it= .pto N 0)
 (okT:aaI (aeo kp C run kr (aV C en.toList [some e] en.toList.tail) (flL ps en.toList) id2 it t0 n0) ks vs tr=true) (QL:Exit→Act→World→Prop)
 (done: ∀ms s ok w ρ a,(∀m∈ms,m=true)→aim nb C okB wB ρB hB ps n it q c N r mr ck n0 es ks vs tr ms s ok w ρ a→QL (.exit id1) a w):
 ∀(m:Nat) {ms:List Bool} {s:St} {ok:Nat→Prop} {w:World} {ρ:Rho} {a:Act},ms.count false=m→aim nb C okB wB ρB hB ps n it q c N r mr ck n0 es ks vs tr ms s ok w ρ a→
 mK P (Code.seq (.region jn nx false) (.seq (.cond (.tmp c) .skip (.exit id1)) (.block id2 (.seq (.region je en false) rest)))) QL a w:=by
 intro m
 induction m using Nat.strongRecOn with
 |_ m ih=>
  intro ms s ok w ρ a hm L
  refine lE (ajQ X H sh hbn hbe KR IB hr st t0q t0c t0i okT L _ (fun a' w' hall L'=>?_) (fun i s' ok' w' ρ' a' hi L'=>?_))
  ·exact done ms s ok w' ρ a' hall L'
  ·have:=count_set ms i hi
   exact ih _ (by omega) rfl L'
theorem aow (X:aX P C) (H:dg P C run) {ps:List Nat} {n it q c e:Nat} {nx en:Array Oper} (sh:Shape nx en it q c e) (hbn: ∀o∈nx.toList,opB n o=true) (hbe: ∀o∈en.toList,opB n o=true) {id1 id2 jn je:Nat} {rest:Code} {kr:Kr}
 (KR: ∀{s:St} {ex:Ex} {s':St},kr s=some (ex,s')→ ∀{ok:Nat→Prop} {w:World} {ρ:Rho} {a:Act},SOk nb C ok w ρ ps n s a→rest.wp P (jX nb C ok w ρ ps n s.h ex s') a w)
 {okB:Nat→Prop} {wB:World} {ρB:Rho} {hB:AH} (IB:Inv C okB wB ρB hB) {N r mr ck:Nat} (hr:wB.heap.size≤r) {es:Array MapEntry} (st:vQ es ck) {ks vs:List AV}
 {t:Tms} {h:AH} {T':Tms} {h':AH} (eG:ahj kp C run kr q c (aV C en.toList [some e] en.toList.tail) (flL ps en.toList) id2 it N ks vs t h=some (.st T' h'))
 {ok:Nat→Prop} {w:World} {ρ:Rho} {a:Act} (S:SOk nb C ok w ρ ps n ⟨t,h⟩ a) (B:Ext okB wB ρB hB ok w ρ h) (tq:aW t q= .bot) (tc:aW t c= .bot) (nam:ρ N=some r) (itr:w.heap[r]? =some (.mapIter (some mr) ck #[] ck))
 (mp:w.heap[mr]? =some (.map es ck)) (okm:ok mr) (nok: ¬ok r) (free: ∀m,ae h m≠none→ρ m≠some r) (keys:VL ok w ks ρ0 (es.toList.map (·.key))) (vals:VL ok w vs ρ0 (es.toList.map (·.val))):
 (Code.block id1 (.loop (.seq (.region jn nx false) (.seq (.cond (.tmp c) .skip (.exit id1)) (.block id2 (.seq (.region je en false) rest)))))).wp P (fun e a' w'=>e= .normal∧ ∃ok' ρ',Ext okB wB ρB hB ok' w' ρ' h'∧SOk nb C ok' w' ρ' ps n ⟨T',h'⟩ a') a w:=by
 obtain ⟨e1,eG⟩:=ax eG
 obtain ⟨tr,e2,eG⟩:=ag eG
 obtain ⟨e3,eG⟩:=ax eG
 have ti:=nB e1
 have tn:tin t it=true:=by
  by_cases hh:tin t it=true
  ·exact hh
  ·have hh:tin t it=false:=by simpa using hh
   rw [gV _ _ hh] at ti;cases ti
 have hkl:ks.length=es.size:=by have:=bQ keys;simp at this;omega
 refine wp_block (mK.wp (aol X H sh hbn hbe KR IB hr st tq tc ti e3 _ (fun ms s ok w ρ a hall L=>?_) _ rfl (ms:=List.replicate ks.length false) (s:=⟨t,h⟩) ⟨S,B,by show h.length=aj h;rw [ah],tq,tc,ti,tn,nam,⟨#[],ck,itr,Nat.le_refl _,fun i x hx=>?_⟩,mp,okm,nok,free,keys,vals,by rw [List.length_replicate,hkl],aaW e2⟩))
 ·have hl:=xG L.leaf hall
  rw [hl] at eG
  cases eG
  show (if id1=id1 then _ else _)
  rw [if_pos rfl]
  exact ⟨rfl,ok,ρ,L.B,L.S⟩
 ·have hi:=(List.getElem?_eq_some_iff.1 hx).1
  rw [List.getElem?_replicate,if_pos (by rw [hkl];simpa using hi)]
  simp
theorem agf {a b:Code} {d:RmP} (e:aay C a b=some d): ∃i ops id jn nx je en rest pre lst ti kt et,
 a= .region i ops false∧b= .block id (.loop (.seq (.region jn nx false) (.seq (.cond (.tmp d.c) .skip (.exit id)) (.block d.id2 (.seq (.region je en false) rest)))))∧
 ops.toList=pre++[lst]∧d.ops=ops.toList∧lst.dst=some d.it∧lst.op= .range d.ty d.x∧lst.guard=none∧C.ty d.ty=some ti∧ti.kind= .map kt et∧d.ens=en.toList∧Shape nx en d.it d.q d.c d.e:=by
 unfold aay at e
 split at e
 ·rename_i ri ops rd rc n1 n2 e1 entl id2 hl
  unfold ajA at hl
  split at hl
  ·rename_i id jn nx cc id1 id2' je en rest
   obtain ⟨z1,z2⟩:=ax hl
   have z1:=Nat.eq_of_beq_eq_true z1
   subst z1
   simp only [Option.some.injEq,Prod.mk.injEq] at z2
   obtain ⟨y1,y2,y3,y4,y5⟩:=z2
   subst y1 y2 y5
   split at e
   ·rename_i lst q it1 c1 q1 ee it2 g1 g2 g3 g4
    split at e
    ·rename_i it ty x g5
     split at e
     ·rename_i ti g6
      split at e
      ·rename_i kt et g7
       obtain ⟨x1,x2⟩:=ax e
       cases x2
       simp only [Bool.and_eq_true,Bool.not_eq_true'] at x1
       obtain ⟨⟨⟨u1,u2⟩,u3,u4⟩,u5,u6⟩:=x1
       have u1:=Nat.eq_of_beq_eq_true u1
       have u2:=Nat.eq_of_beq_eq_true u2
       have u3:=Nat.eq_of_beq_eq_true u3
       have u4:=Nat.eq_of_beq_eq_true u4
       subst u1 u2 u3 u4
       have g1':ops.toList=ops.toList.dropLast++[lst]:=by
        obtain ⟨hne,hl⟩:=List.getLast?_eq_some_iff.1 g1
        rw [hl];simp
       have r1:lst.dst=some it∧lst.op= .range ty x∧lst.guard=none:=by
        unfold aeY at g5
        split at g5
        ·rename_i h1 h2 h3;cases g5;exact ⟨h1,h2,h3⟩
        ·cases g5
       have r2:n1.dst=some q∧n1.op= .next (.tmp it) false∧n1.guard=none:=by
        unfold ajq at g2
        split at g2
        ·rename_i h1 h2 h3;cases g2;exact ⟨h1,h2,h3⟩
        ·cases g2
       have r3:n2.dst=some cc∧n2.op= .extract (.tmp q) 0∧n2.guard=none:=by
        unfold apV at g3
        split at g3
        ·rename_i h1 h2 h3;cases g3;exact ⟨h1,h2,h3⟩
        ·cases g3
       have r4:e1.dst=some ee∧e1.op= .entry (.tmp it)∧e1.guard=none:=by
        unfold aeq at g4
        split at g4
        ·rename_i h1 h2 h3;cases g4;exact ⟨h1,h2,h3⟩
        ·cases g4
       refine ⟨ri,ops,id,jn,nx,je,en,rest,ops.toList.dropLast,lst,ti,kt,et,rfl,rfl,g1',rfl,r1.1,r1.2.1,r1.2.2,g6,g7,y4.symm,⟨⟨n1,n2,?_,r2.1,r2.2.1,r2.2.2,r3.1,r3.2.1,r3.2.2⟩,⟨e1,entl,y4,r4.1,r4.2.1,r4.2.2⟩,?_,?_⟩⟩
       ·apply Array.ext';exact y3
       ·intro h;have h:it=q:=h;rw [h,Nat.beq_refl] at u5;cases u5
       ·intro h;have h:it=cc:=h;rw [h,Nat.beq_refl] at u6;cases u6
      ·cases e
     ·cases e
    ·cases e
   ·cases e
  ·cases hl
 ·cases e
theorem aiK {ti:TI} {t kt et:Nat} (X:aX P C) (h:C.ty t=some ti) (hk:ti.kind= .map kt et):P.underlying t=some (.map kt et):=by
 have:=(X.ty _ _ h).und
 rw [hk] at this
 exact this
theorem asu (X:aX P C) (H:dg P C run) {ps:List Nat} {n:Nat} {a b:Code} {d:RmP} (hd:aay C a b=some d) {kr:Kr} {s:St} {ex:Ex} {s':St}
 (e:kRm C run (aV C d.ops [] d.ops.dropLast) (od (d.ops.dropLast.map (·.dst)).reverse d.x) (flL ps d.ops) d.q d.c (aV C d.ens [some d.e] d.ens.tail) (flL ps d.ens) d.id2 d.it kr s=some (ex,s')) (hb:dx n (.seq a b)=true)
 (KR: ∀{id jn nx c id1 id2 je en rest},b= .block id (.loop (.seq (.region jn nx false) (.seq (.cond (.tmp c) .skip (.exit id1)) (.block id2 (.seq (.region je en false) rest)))))→ ∀{s:St} {ex:Ex} {s':St},kr s=some (ex,s')→ ∀{ok:Nat→Prop} {w:World} {ρ:Rho} {a:Act},SOk nb C ok w ρ ps n s a→rest.wp P (jX nb C ok w ρ ps n s.h ex s') a w)
 {ok:Nat→Prop} {w:World} {ρ:Rho} {act:Act} (S:SOk nb C ok w ρ ps n s act):(Code.seq a b).wp P (jX nb C ok w ρ ps n s.h ex s') act w:=by
 obtain ⟨i,ops,id,jn,nx,je,en,rest,pre,lst,ti,kt,et,rfl,hbb,hops,hdo,l1,l2,l3,hti,hki,hde,sh⟩:=agf hd
 have KR5:=@KR id jn nx d.c id d.id2 je en rest hbb
 subst hbb
 have hb:(dx n (.region i ops false)&&dx n (.block id (.loop (.seq (.region jn nx false) (.seq (.cond (.tmp d.c) .skip (.exit id)) (.block d.id2 (.seq (.region je en false) rest)))))))=true:=hb
 simp only [dx,Bool.and_eq_true] at hb
 obtain ⟨hb1,hb2,_,hb3,_⟩:=hb
 have hb1: ∀o∈ops.toList,opB n o=true:=List.all_eq_true.1 hb1
 have hb2: ∀o∈nx.toList,opB n o=true:=List.all_eq_true.1 hb2
 have hb3: ∀o∈en.toList,opB n o=true:=List.all_eq_true.1 hb3
 have ht:=aiK X hti hki
 obtain ⟨h1,e5⟩:=kA (show fC (vH C run s.t (aV C d.ops [] d.ops.dropLast) (ak6 C run kr (od (d.ops.dropLast.map (·.dst)).reverse d.x) (flL ps d.ops) d.q d.c (aV C d.ens [some d.e] d.ens.tail) (flL ps d.ens) d.id2 d.it s.t) [] s.h)=some (ex,s') from e)
 subst h1
 have hdl:d.ops.dropLast=pre:=by rw [hdo,hops];simp
 rw [hdl,hdo,hde] at e5
 refine wp_seq (wp_region ?_)
 have hsize:List.range ops.size=List.range' 0 pre.length++[pre.length]:=by
  rw [←Array.length_toList,hops,List.length_append,List.length_singleton,List.range_succ,List.range_eq_range']
 rw [hsize]
 refine ad8 X H hb1 s.t pre [lst] 0 (by rw [List.drop_zero];exact hops) S.tm.size S.inv S.tm.ri e5 _ _ (fun a' w' ok' ρ' σ' h' q1 q2 q3 q4 q5 q6=>?_)
 rw [wpOps_cons]
 have hl0:ops[pre.length]? =some lst:=by rw [←Array.getElem?_toList,hops];simp
 have q4':RI ok' w' ρ' ((pre.map (·.dst)).reverse) σ' s.t a'.tmps:=by simpa using q4
 have hx:=q4'.operand q3 d.x
 have hit:d.it<n:=by
  have:=hb1 lst (by rw [hops];simp)
  unfold opB at this;rw [l1] at this;simpa [Nat.blt_eq] using this
 have hsz:n≤a'.tmps.size:=by rw [q5];exact S.tm.size
 have free1: ∀m,ae (aJ h' [none]) m≠none→cu ρ' h'.length w'.heap.size m≠some w'.heap.size:=by
  intro m hm' e
  have hlt:=cD hm'
  rw [fS] at hlt
  have hlt:m<h'.length+1:=hlt
  by_cases hmm:m=h'.length
  ·subst hmm
   refine hm' ?_
   rw [cH,if_neg (by omega),Nat.sub_self];rfl
  ·unfold cu at e
   rw [if_neg hmm] at e
   have:=(q3.dom m _ e).2
   omega
 -- what comes of a map's cell
 have go: ∀(mr:Nat) (es:Array MapEntry) (ck:Nat),a'.eval d.x= .map (some mr)→w'.heap[mr]? =some (.map es ck)→vQ es ck→
  (∀(w1:World) (ρ1:Rho) (a1:Act),w1=w'.alloc (.mapIter (some mr) ck #[] ck)→ρ1=cu ρ' h'.length w'.heap.size→Inv C ok' w1 ρ1 (aJ h' [none])→Ext ok' w' ρ' h' ok' w1 ρ1 (aJ h' [none])→
   SOk nb C ok' w1 ρ1 ps n ⟨eP d.q d.c (bZ (.pto (aj h') 0::σ') s.t (flL ps ops.toList)),aJ h' [none]⟩ a1→
   ∃kp ok2 t2 h2 ks vs,ahj kp C run kr d.q d.c (aV C en.toList [some d.e] en.toList.tail) (flL ps en.toList) d.id2 d.it (aj h') ks vs t2 h2=some (.st s'.t s'.h)∧SOk nb C ok2 w1 ρ1 ps n ⟨t2,h2⟩ a1∧Ext ok' w' ρ' h' ok2 w1 ρ1 h2∧
    aW t2 d.q= .bot∧aW t2 d.c= .bot∧ok2 mr∧ ¬ok2 w'.heap.size∧(∀m,ae h2 m≠none→ae (aJ h' [none]) m≠none)∧VL ok2 w1 ks ρ0 (es.toList.map (·.key))∧VL ok2 w1 vs ρ0 (es.toList.map (·.val)))→
  wpOp P ops (Exit.then ((Code.block id (.loop (.seq (.region jn nx false) (.seq (.cond (.tmp d.c) .skip (.exit id)) (.block d.id2 (.seq (.region je en false) rest)))))).wp P (jX nb C ok w ρ ps n s.h .nrm s')) (jX nb C ok w ρ ps n s.h .nrm s')) pre.length
   (wpOps P ops (Exit.then ((Code.block id (.loop (.seq (.region jn nx false) (.seq (.cond (.tmp d.c) .skip (.exit id)) (.block d.id2 (.seq (.region je en false) rest)))))).wp P (jX nb C ok w ρ ps n s.h .nrm s')) (jX nb C ok w ρ ps n s.h .nrm s')) []) a' w':=by
  intro mr es ck hev hcell st F
  obtain ⟨w1,hw1⟩: ∃w1,w'.alloc (.mapIter (some mr) ck #[] ck)=w1:=⟨_,rfl⟩
  refine pO (o:=lst) (v:=.pointer (some ⟨w'.heap.size,0,none⟩)) (w':=w1) hl0 l3 ?_ ?_
  ·have:execOp a'.eval lst=(do pure (.value (←Instr.range d.ty (a'.eval d.x))):Sem Next):=by
    obtain ⟨dd,o,t,p,f,g⟩:=lst
    simp only at l2
    subst l2
    rfl
   rw [this,hev]
   have:=run_range_map (P:=P) w' d.ty kt et mr es ck ht hcell
   rw [hw1] at this
   simp [this]
  ·rw [l1]
   have hh:w1.heap=w'.heap.push (.mapIter (some mr) ck #[] ck):=by rw [←hw1];rfl
   have ho:w1.os=w'.os∧w1.tape=w'.tape∧w1.output=w'.output:=by rw [←hw1];exact ⟨rfl,rfl,rfl⟩
   obtain ⟨E1,I1⟩:=Ext.dead q3 (w':=w1) hh ho.1 ho.2.1 ho.2.2
   have vp:V ok' w1 (.pto (aj h') 0) (cu ρ' h'.length w'.heap.size) (.pointer (some ⟨w'.heap.size,0,none⟩)):=by
    rw [ah];simp only [V];exact ⟨w'.heap.size,by simp [cu],rfl⟩
   have R1:=(q4'.up E1.up).push (D:=some d.it) (a:=a') vp (fun x hx=>by cases hx;omega)
   have R1:RI ok' w1 (cu ρ' h'.length w'.heap.size) (ops.toList.map (·.dst)).reverse (.pto (aj h') 0::σ') s.t (a'.put (some d.it) (.pointer (some ⟨w'.heap.size,0,none⟩))).tmps:=by
    rw [hops,List.map_append,List.reverse_append,List.map_singleton,l1];exact R1
   have T1:TOk ok' w1 (cu ρ' h'.length w'.heap.size) ps n (bZ (.pto (aj h') 0::σ') s.t (flL ps ops.toList)) (a'.put (some d.it) (.pointer (some ⟨w'.heap.size,0,none⟩))).tmps:=R1.flush (n:=n) (by rw [(eL a' (some d.it) _).1];exact hsz) S.tm.inn S.tm.low
   obtain ⟨f1,f2,f3,f4⟩:=oN d.q d.c (bZ (.pto (aj h') 0::σ') s.t (flL ps ops.toList))
   have S1:SOk nb C ok' w1 (cu ρ' h'.length w'.heap.size) ps n ⟨eP d.q d.c (bZ (.pto (aj h') 0::σ') s.t (flL ps ops.toList)),aJ h' [none]⟩ (a'.put (some d.it) (.pointer (some ⟨w'.heap.size,0,none⟩))):=by
    refine ⟨I1,⟨T1.size,fun i hi=>T1.inn i (by rw [←f3];exact hi),T1.low,fun i=>?_⟩,by
     show Marks nb ok' w1 _ _ a'.defers
     rw [q6];exact (S.df.ext S.inv q2).ext q3 E1,Nat.le_trans S.nl (Nat.le_trans q2.size E1.size)⟩
    rcases f4 i with h|h
    ·show V _ _ (aW (eP d.q d.c _) i) _ _
     rw [h];exact T1.get i
    ·show V _ _ (aW (eP d.q d.c _) i) _ _
     rw [h];simp only [V]
   obtain ⟨kp,ok2,t2,h2,ks,vs,g1,g2,g3,g4,g5,g6,g7,g8,g9,g10⟩:=F w1 _ _ hw1.symm rfl I1 E1 S1
   have hmr:mr<w'.heap.size:=by
    rcases Nat.lt_or_ge mr w'.heap.size with l|l
    ·exact l
    ·rw [Array.getElem?_eq_none l] at hcell;cases hcell
   refine wp_mono (aow X H sh hb2 hb3 KR5 q3 (Nat.le_refl _) st g1 g2 g3 g4 g5 (by rw [ah];simp [cu]) (by rw [hh];simp) (by rw [hh,Array.getElem?_push,if_neg (by omega)];exact hcell) g6 g7 (fun m hm e=>?_) g9 g10) ?_
   ·exact free1 m (g8 m hm) e
   ·rintro ee a2 w2 ⟨rfl,ok3,ρ3,E3,S3⟩
    exact ⟨rfl,ok3,ρ3,Ext.trans S.inv q2 E3,S3⟩
 unfold ak6 at q1
 split at q1
 ·--a map that nobody writes
  rename_i ks vs hev
  rw [hev] at hx
  simp only [V] at hx
  obtain ⟨mr,es,ck,x1,x2,x3,x4,x5,x6⟩:=hx
  refine go mr es ck x2 x3 x6 (fun w1 ρ1 a1 hw1 hρ1 I1 E1 S1=>?_)
  obtain ⟨f1,f2,f3,f4⟩:=oN d.q d.c (bZ (.pto (aj h') 0::σ') s.t (flL ps ops.toList))
  obtain ⟨kp,q1⟩:=wA q1
  refine ⟨kp,ok',_,_,ks,vs,q1,S1,E1,f1,f2,x1,fun hk=>?_,fun _ h=>h,VL.up ks E1.up.pure x4,VL.up vs E1.up.pure x5⟩
  have:=q3.okb _ hk
  omega
 ·--one of the small heap's:it is laid still
  rename_i bb hev
  obtain ⟨blk,y1,y2⟩:=ag q1
  cases blk with
  |cells cs=>cases y2
  |rows z ll y=>cases y2
  |map ks vs=>
  have y2:bq (and (ltL 0 ks) (ltL 0 vs)) _ none=some (Rs.st s'.t s'.h):=y2
  obtain ⟨y3,y4⟩:=ax y2
  rw [Bool.and_eq_true] at y3
  rw [hev] at hx
  simp only [V] at hx
  obtain ⟨mr,x1,x2⟩:=hx
  obtain ⟨mr',z1,z2,es,ck,z3,z4,z5,z6⟩:=q3.live bb _ y1
  rw [x1] at z1
  cases z1
  refine go mr es ck x2 z3 z6 (fun w1 ρ1 a1 hw1 hρ1 I1 E1 S1=>?_)
  obtain ⟨f1,f2,f3,f4⟩:=oN d.q d.c (bZ (.pto (aj h') 0::σ') s.t (flL ps ops.toList))
  have hbl:=cD (show ae h' bb≠none by rw [y1];simp)
  have hb1:ae (aJ h' [none]) bb=some (.map ks vs):=by rw [cH,if_pos hbl];exact y1
  obtain ⟨ok2,r2,es2,ck2,St,E2,I2⟩:=afE I1 hb1 y3.1 y3.2
  have nb:ρ1 bb=some mr:=by rw [hρ1];unfold cu;rw [if_neg (by omega)];exact x1
  have hr2:r2=mr:=by have:=St.nam;rw [nb] at this;cases this;rfl
  subst hr2
  have hcell1:w1.heap[r2]? =some (.map es ck):=by
   rw [hw1]
   show (w'.heap.push _)[r2]? =_
   have:=(q3.dom bb r2 x1).2
   rw [Array.getElem?_push,if_neg (by omega)];exact z3
  have hes:es2=es:=by have:=St.cell;rw [hcell1] at this;cases this;rfl
  subst hes
  obtain ⟨kp,y4⟩:=wA y4
  refine ⟨kp,ok2,_,_,ks,vs,y4,⟨I2,⟨S1.tm.size,fun i hi=>S1.tm.inn i (by rw [nh] at hi;exact hi),S1.tm.low,fun i=>?_⟩,S1.df.ext I1 E2,Nat.le_trans S1.nl E2.size⟩,Ext.trans q3 E1 E2,?_,?_,St.isok,fun hk=>?_,fun m hm=>?_,St.keys,St.vals⟩
  ·show V ok2 w1 (aW (sQ _ _) i) ρ1 _
   rw [iO]
   cases tin (eP d.q d.c (bZ (.pto (aj h') 0::σ') s.t (flL ps ops.toList))) i with
   |false=>simp only [ay,V]
   |true=>exact V.frz St _ (S1.tm.get i)
  ·rw [iO,f1];cases tin _ _<;>rfl
  ·rw [iO,f2];cases tin _ _<;>rfl
  ·rcases E2.oknew _ hk with hk|hk|⟨m,hm,em⟩
   ·have:=q3.okb _ hk;omega
   ·rw [hw1] at hk
    have:(w'.alloc (.mapIter (some r2) ck #[] ck)).heap.size=w'.heap.size+1:=by show (w'.heap.push _).size=_;simp
    omega
   ·rw [hρ1] at em;exact free1 m hm em
  ·rw [aaF] at hm
   split at hm
   ·exact absurd rfl hm
   ·intro c;rw [c] at hm;exact hm rfl
 ·cases q1
end
end Go.Proofs.YteapfopaiocpeaaGreatDoor
namespace Go.Proofs.YteapfopaiocpeaaGreatDoor
set_option linter.unusedSimpArgs false
set_option linter.unusedVariables false
set_option linter.unnecessarySimpa false
section
variable {nb:Nat} {P:Program} {C:Cx} {run:Run} {lp:Lp}
theorem agb {n:Nat} {row:String} {args:Array Value} {w:World} {R:Value→World→Prop} (h:Rows P row args w R):RowsIn Fence.wide n P row args w R:=
 fun c cs _=>let ⟨v,w',r,s⟩:=h c cs;⟨v,w',r,stepsIn_wide.2 s⟩
theorem oP {ops:Array Oper} {Q:Exit→Act→World→Prop} (l n:Nat) (hc: ∀o∈ops.toList,zT o=true) (hQ: ¬LetsOut Q): ∀(idx:List Nat) (a:Act) (w:World),wpOps P ops Q idx a w→wpOpsIn (Fence.wide.inRound l) n P ops Q idx a w
 |[],a,w,h=>h
 |i::rest,a,w,h=>by
  have IH:=oP l n hc hQ rest
  unfold wpOps at h
  unfold wpOpsIn
  cases ho:ops[i]? with
  |none=>rw [ho] at h;exact IH a w h
  |some o=>
   rw [ho] at h
   simp only at h ⊢
   by_cases hw:Region.wanted o (yielded ops a.tmps)=true
   ·rw [if_pos hw] at h ⊢
    have hm:o∈ops.toList:=by
     have:=Array.mem_of_getElem? ho
     simpa using this
    have hd: ∀c,o.op≠ .defer c:=by
     intro c e
     have:=hc o hm
     unfold zT at this
     rw [e] at this
     cases this
    rcases h with h|h
    ·refine ⟨fun _ _=>trivial,?_⟩
     show o.uponIn _ n P a _ Q ((o.semAt (some l) a.eval).run P w)
     rw [Oper.semAt_some l _ _ hd]
     have h:o.upon P a (wpOps P ops Q rest) Q ((execOp a.eval o).run P w):=h
     revert h
     generalize (execOp a.eval o).run P w=r
     intro h
     unfold Oper.upon at h
     split at h
     ·exact IH _ _ h
     ·exact IH _ _ h
     ·exact IH _ _ h
     ·refine ⟨fun h=>(by cases h),CallsIn.inRound l ((callsIn_wide.2 h).mono fun e w2 hh=>?_)⟩
      cases e with
      |returned v=>exact IH _ _ hh
      |panicked ch=>exact hh
      |outgrown=>exact hh
     ·refine ⟨fun h=>(by cases h),?_⟩
      have:=(agb (n:=n-1) h).mono fun v w2 hh=>IH _ _ hh
      exact this
     ·exact h
     ·exact h.elim
    ·exact absurd h.2 hQ
   ·rw [if_neg hw] at h ⊢
    exact ⟨fun _ _=>trivial,IH _ _ h⟩
theorem aao {ok:Nat→Prop} {w:World} {ρ:Rho} {ps:List Nat} {n:Nat} {h:AH} {ex:Ex} {s':St}: ¬LetsOut (jX nb C ok w ρ ps n h ex s'):=by
 rintro ⟨a,w',he,_⟩
 cases ex<;>cases he
theorem yQ (X:aX P C) (H:dg P C run) (l m:Nat): ∀(c:Code),rW C c=true→ ∀{ps:List Nat} {n:Nat} {s:St} {ex:Ex} {s':St},kx C run lp (comp C ps c) s=some (ex,s')→dx n c=true→ ∀{ok:Nat→Prop} {w:World} {ρ:Rho} {a:Act},SOk nb C ok w ρ ps n s a→
 c.wpIn (Fence.wide.inRound l) m P (jX nb C ok w ρ ps n s.h ex s') a w
 | .region id ops d,hc,ps,n,s,ex,s',e,hb,ok,w,ρ,a,S=>by
   have hb2: ∀o∈ops.toList,opB n o=true:=List.all_eq_true.1 hb
   have hc:and (ops.toList.all zT) (bq d (fh C ops) true)=true:=hc
   rw [Bool.and_eq_true] at hc
   have hc1: ∀o∈ops.toList,zT o=true:=List.all_eq_true.1 hc.1
   have post: ∀a' w' ok' ρ',Ext ok w ρ s.h ok' w' ρ' s'.h→Inv C ok' w' ρ' s'.h→TOk ok' w' ρ' ps n s'.t a'.tmps→a'.defers=a.defers→jX nb C ok w ρ ps n s.h .nrm s' .normal a' w':=
    fun a' w' ok' ρ' q1 q2 q3 q4=>⟨rfl,ok',ρ',q1,q2,q3,by rw [q4];exact S.df.ext S.inv q1,Nat.le_trans S.nl q1.size⟩
   cases d with
   |false=>
    have e:fC (gR C run (flL ps ops.toList) s.t (aV C ops.toList [] ops.toList) [] s.h)=some (ex,s'):=e
    obtain ⟨h1,e2⟩:=kA e
    subst h1
    exact wpIn_region (oP l m hc1 aao _ _ _ (wM X H hb2 S.inv S.tm e2 _ post))
   |true=>
    have hok:fh C ops=true:=hc.2
    have e:kx C run lp (bq (fh C ops) (.draw (bC C ops.toList (bM ops.toList) 0 (aV C ops.toList [] ops.toList)) (bo C ops) (flL ps ops.toList)) (aaL C ps ops)) s=some (ex,s'):=e
    rw [hok,aw] at e
    obtain ⟨h1,e2⟩:=kA (show fC (jR C run (flL ps ops.toList) s.t (bC C ops.toList (bM ops.toList) 0 (aV C ops.toList [] ops.toList)) (bo C ops) s.h)=some (ex,s') from e)
    subst h1
    refine wpIn_region_draw fun t=>oP l m hc1 aao _ _ _ ?_
    have:=pG X H hok hb2 S.inv S.tm e2 _ post
    simp only [Region.schedule,X.mixed,Bool.true_or,if_true]
    exact wpAny_sound ops.size t _ a _ this
 | .block id b,hc,ps,n,s,ex,s',e,hb,ok,w,ρ,a,S=>by
   obtain ⟨⟨ex1,s1⟩,e1,e2⟩:=ag (show au (kx C run lp (comp C ps b) s) (apf id)=some (ex,s') from e)
   refine wpIn_block (wpIn_mono (yQ X H l m b hc e1 hb S) ?_)
   rintro e a1 w1 ⟨rfl,ok1,ρ1,E1,S1⟩
   cases ex1 with
   |nrm=>cases e2;exact ⟨rfl,ok1,ρ1,E1,S1⟩
   |ret=>cases e2;exact ⟨rfl,ok1,ρ1,E1,S1⟩
   |exit i=>
    have e2:bq (Nat.beq i id) (some (.nrm,s1)) (some (.exit i,s1))=some (ex,s'):=e2
    show (if i=id then _ else _)
    cases hi:Nat.beq i id with
    |true=>
     rw [hi] at e2;cases e2
     rw [if_pos (Nat.eq_of_beq_eq_true hi)]
     exact ⟨rfl,ok1,ρ1,E1,S1⟩
    |false=>
     rw [hi] at e2;cases e2
     rw [if_neg (fun c=>by rw [c,Nat.beq_refl] at hi;cases hi)]
     exact ⟨rfl,ok1,ρ1,E1,S1⟩
structure Frn (ok:Nat→Prop) (w:World) (ρ:Rho) (h:AH) (r:Nat):Prop where
 lt:r<w.heap.size
 nok: ¬ok r
 free: ∀n,ae h n≠none→ρ n≠some r
theorem Frn.ext {ok:Nat→Prop} {w:World} {ρ:Rho} {h:AH} {ok':Nat→Prop} {w':World} {ρ':Rho} {h':AH} {r:Nat} (f:Frn ok w ρ h r) (I:Inv C ok w ρ h) (E:Ext ok w ρ h ok' w' ρ' h'):Frn ok' w' ρ' h' r∧w'.heap[r]? =w.heap[r]? :=by
 refine ⟨⟨Nat.lt_of_lt_of_le f.lt E.size,fun hk=>?_,fun n hn e=>?_⟩,E.keep r f.lt f.free⟩
 ·rcases E.oknew r hk with hk|hk|⟨n,hn,en⟩
  ·exact f.nok hk
  ·have:=f.lt;omega
  ·exact f.free n hn en
 ·rcases E.rnew n r e with e1|⟨_,⟨k,hk,ek⟩|hs⟩
  ·exact f.free n (E.alive n (I.dom n r e1).1 hn) e1
  ·exact f.free k hk ek
  ·have:=f.lt;omega
theorem Ext.apH {ok:Nat→Prop} {w w':World} {ρ:Rho} {h:AH} (I:Inv C ok w ρ h) (G:zV w w'):Ext ok w ρ h ok w' ρ h∧Inv C ok w' ρ h∧ ∀r,w.heap.size≤r→r<w'.heap.size→Frn ok w' ρ h r:=by
 have U:Up ok w ρ ok w' ρ:=by
  refine ⟨fun r hr=>G.keep r (I.okb r hr),fun _ h=>h,fun r s hs=>?_,fun _ _ h=>h⟩
  rw [dZ (G.keep r ?_)];exact hs
  rcases Nat.lt_or_ge r w.heap.size with l|l
  ·exact l
  ·simp [World.shape?,Array.getElem?_eq_none l] at hs
 refine ⟨⟨U,G.size,G.os,G.tape,G.output,Nat.le_refl _,fun r hr _=>G.keep r hr,fun _ h=>.inl h,fun _ _ h=>h,fun _ _ h=>.inl h⟩,⟨fun r hr=>Nat.lt_of_lt_of_le (I.okb r hr) G.size,fun n r e=>⟨(I.dom n r e).1,Nat.lt_of_lt_of_le (I.dom n r e).2 G.size⟩,fun n b e=>?_,I.inj,I.zY U⟩,fun r h1 h2=>⟨h2,fun hk=>absurd (I.okb _ hk) (Nat.not_lt.2 h1),fun n _ e=>absurd (I.dom n _ e).2 (Nat.not_lt.2 h1)⟩⟩
 obtain ⟨r,h1,h2,h3⟩:=I.live n b e
 exact ⟨r,h1,h2,h3.up U (G.keep r (I.dom n r h1).2)⟩
theorem Ext.grow {ok:Nat→Prop} {w:World} {ρ:Rho} {h:AH} (I:Inv C ok w ρ h) (o:Obj):Ext ok w ρ h ok (w.alloc o) ρ h∧Inv C ok (w.alloc o) ρ h∧Frn ok (w.alloc o) ρ h w.heap.size:=by
 obtain ⟨h1,h2,h3⟩:=Ext.apH I (zV.alloc w o)
 exact ⟨h1,h2,h3 _ (Nat.le_refl _) (by show _<(w.heap.push o).size;simp)⟩
theorem Ext.om {okB:Nat→Prop} {wB:World} {ρB:Rho} {hB:AH} {ok:Nat→Prop} {w:World} {ρ:Rho} {h:AH} {r:Nat} (IB:Inv C okB wB ρB hB) (B:Ext okB wB ρB hB ok w ρ h) (I:Inv C ok w ρ h) (f:Frn ok w ρ h r) (hr:wB.heap.size≤r) (hs:w.shape? r=none) (o:Obj):
 Ext okB wB ρB hB ok (w.putObj r o) ρ h∧Inv C ok (w.putObj r o) ρ h∧Up ok w ρ ok (w.putObj r o) ρ∧(w.putObj r o).heap.size=w.heap.size∧(∀k,k≠r→(w.putObj r o).heap[k]? =w.heap[k]?):=by
 have hs':(w.putObj r o).heap.size=w.heap.size:=by simp [World.putObj]
 have hk: ∀k,k≠r→(w.putObj r o).heap[k]? =w.heap[k]? :=fun k hk=>World.putObj_heap_other hk
 obtain ⟨U,I2⟩:=oR I hs' hk hs f.nok f.free
 exact ⟨nA IB B hr U hs' hk rfl rfl rfl,I2,U,hs',hk⟩
theorem Frn.om {ok:Nat→Prop} {w w':World} {ρ:Rho} {h:AH} {r:Nat} (f:Frn ok w ρ h r) (hs:w'.heap.size=w.heap.size):Frn ok w' ρ h r:=⟨by rw [hs];exact f.lt,f.nok,f.free⟩
theorem asr (X:aX P C) (H:dg P C run) {f:Operand} {pa:Array Tmp} {assign body:Code} {ps:List Nat} {n:Nat} {s:St} {ex:Ex} {s':St} (e:kx C run lp (comp C ps (.rangeFunc f pa assign body)) s=some (ex,s')) (hb:dx n (.rangeFunc f pa assign body)=true)
 {ok:Nat→Prop} {w:World} {ρ:Rho} {a:Act} (S:SOk nb C ok w ρ ps n s a):(Code.rangeFunc f pa assign body).wp P (jX nb C ok w ρ ps n s.h ex s') a w:=by
 have hb2:(dx n assign&&dx n body)=true:=hb
 rw [Bool.and_eq_true] at hb2
 unfold comp at e
 split at e
 case h_2=>cases e
 rename_i x hx
 cases hcalm:and (rW C assign) (rW C body) with
 |false=>rw [hcalm] at e;cases e
 |true=>
 rw [hcalm,aw] at e
 rw [Bool.and_eq_true] at hcalm
 have e:kRf C (od [] f) x (kx C run lp (comp C ps assign)) (kx C run lp (comp C ps body)) s=some (ex,s'):=e
 generalize hA:kx C run lp (comp C ps assign)=asg at e
 generalize hB:kx C run lp (comp C ps body)=bdy at e
 have hv:=S.tm.ri.operand S.inv f
 obtain rfl:pa= #[x]:=by
  apply Array.ext'
  rw [hx]
 unfold kRf at e
 split at e
 case h_2=>cases e
 rename_i g first hg
 rw [hg] at hv
 split at e
 case h_2=>cases e
 rename_i q hq
 split at e
 case h_2=>cases e
 rename_i xs hxs
 obtain ⟨h',e1,e2⟩:=ag e
 cases e2
 obtain ⟨eg,iter⟩:=X.sq g q hq
 simp only [V] at hv
 obtain ⟨uf,uc,hf,v1,v2⟩:=hv
 obtain rfl:uc= #[]:=by
  simp only [VL] at v2
  exact Array.ext' v2
 refine (wpIn_wide (n:=0)).1 (wpIn_rangeFunc fun fn _=>?_)
 obtain ⟨rec,hrec⟩: ∃rec:LoopState→Option Code→Loop,rec=fun st pe=>{state:=st,pending:=pe,fn,tmps:=a.tmps,params:= #[x],assign,body,defers:=w.heap.size}:=⟨_,rfl⟩
 obtain ⟨E1,I1,F1⟩:=Ext.grow S.inv (.deferred (some []))
 obtain ⟨E2,I2,F2⟩:=Ext.grow I1 (.loop (rec .ready none))
 have F1':=F1.ext I1 E2
 obtain ⟨W1,hW1⟩: ∃W1,(w.alloc (.deferred (some []))).alloc (.loop (rec .ready none))=W1:=⟨_,rfl⟩
 rw [hW1] at E2 I2 F2 F1'
 have sz:(w.alloc (.deferred (some []))).heap.size=w.heap.size+1:=World.size_alloc _ _
 rw [sz] at F2
 have hL1:W1.heap[w.heap.size+1]? =some (.loop (rec .ready none)):=by
  rw [←hW1];have:=World.alloc_heap_new (w.alloc (.deferred (some []))) (.loop (rec .ready none));rwa [sz] at this
 have hD1:W1.heap[w.heap.size]? =some (.deferred (some [])):=F1'.2.trans (World.alloc_heap_new w _)
 have E12:=Ext.trans S.inv E1 E2
 -- between two rounds
 let J:Nat→List Nat→World→Prop:=fun k Fs W=>∃ok' ρ' hk,rfA asg bdy x s.t (xs.drop k) hk=some h'∧Ext ok w ρ s.h ok' W ρ' hk∧Inv C ok' W ρ' hk∧W.heap[w.heap.size+1]? =some (.loop (rec .ready none))∧W.heap[w.heap.size]? =some (.deferred (some []))∧
  (∀r,r=w.heap.size+1∨r=w.heap.size∨r∈Fs→Frn ok' W ρ' hk r)∧ ∀r∈Fs,r≠w.heap.size+1
 have step:=iter first xs hxs ok W1 ρ uf.toList (VL.up _ E12.up v1) (w.heap.size+1) J W1 ?_ ?_ ?_
 ·refine ⟨w.heap.size+1,[{target:=.collected w.heap.size,args:= #[]}],W1,{target:=.fn (.func g) #[],args:=uf++ #[.func (.yield (w.heap.size+1)) #[] #[]]},W1,g,
   uf++ #[.func (.yield (w.heap.size+1)) #[] #[]],W1,?_,?_,fun _ _=>trivial,?_,fun h=>(by cases h),?_⟩
  ·rw [←hW1,hrec];exact run_enterLoop_outer _ _ _ _ _
  ·simp only [resolve,hf]
   simp [go_sem]
  ·simp [invoke,go_sem,eg]
  ·refine CallsIn.mono (by simpa using step) ?_
   rintro ee W ⟨⟨v,rfl⟩,Fs,ok',ρ',hk,q1,q2,q3,q4,q5,q6,_⟩
   rw [List.drop_length] at q1
   cases q1
   have fl:=q6 _ (.inl rfl)
   have fd:=q6 _ (.inr (.inl rfl))
   have hend:=run_endLoop (P:=P) q4 (by rw [hrec];simp)
   obtain ⟨E3,I3,U3,s3,k3⟩:=Ext.om S.inv q2 q3 fl (by omega) (by simp [World.shape?,q4]) (.loop {rec .ready none with state:=.exhausted})
   refine ⟨none,_,by rw [hend,hrec],rfl,ok',ρ',E3,I3,⟨S.tm.size,S.tm.inn,S.tm.low,fun i=>V.up _ E3.up (S.tm.get i)⟩,?_,Nat.le_trans S.nl E3.size⟩
   obtain ⟨ms,m1,m2,m3⟩:=S.df
   have mlt: ∀D∈ms,D<w.heap.size:=fun D hD=>(Array.getElem?_eq_some_iff.1 (m3 D hD).at_).1
   refine ⟨w.heap.size::ms,by rw [List.map_cons,←m1];rfl,List.nodup_cons.2 ⟨fun h=>Nat.lt_irrefl _ (mlt _ h),m2⟩,fun D hD=>?_⟩
   rcases List.mem_cons.1 hD with rfl|hD
   ·exact ⟨S.nl,by rw [k3 _ (by omega)];exact q5,fd.nok,fd.free⟩
   ·have:=(m3 D hD).ext S.inv E3
    exact this
 ·--blocks more
  rintro k Fs W W' rs ⟨ok',ρ',hk,q1,q2,q3,q4,q5,q6,q7⟩ G hrs
  obtain ⟨E3,I3,F3⟩:=Ext.apH q3 G
  refine ⟨ok',ρ',hk,q1,Ext.trans S.inv q2 E3,I3,((q6 _ (.inl rfl)).ext q3 E3).2.trans q4,((q6 _ (.inr (.inl rfl))).ext q3 E3).2.trans q5,fun r hr=>?_,fun r hr=>?_⟩
  ·rcases hr with h|h|h
   ·exact ((q6 r (.inl h)).ext q3 E3).1
   ·exact ((q6 r (.inr (.inl h))).ext q3 E3).1
   ·rcases List.mem_append.1 h with h|h
    ·exact F3 r (hrs r h).1 (hrs r h).2
    ·exact ((q6 r (.inr (.inr h))).ext q3 E3).1
  ·rcases List.mem_append.1 hr with h|h
   ·have:=(q6 _ (.inl rfl)).lt;have:=(hrs r h).1;omega
   ·exact q7 r h
 ·--a round
  rintro k Fs W y v ⟨ok',ρ',hk,q1,q2,q3,q4,q5,q6,q7⟩ hy hV
  obtain ⟨hlt,hyk⟩:=List.getElem?_eq_some_iff.1 hy
  rw [List.drop_eq_getElem_cons hlt,hyk] at q1
  obtain ⟨⟨ea,sa⟩,r1,r2⟩:=ag (show au (asg ⟨iM s.t x y,hk⟩) _=some h' from q1)
  cases ea with
  |exit i=>cases r2
  |ret=>cases r2
  |nrm=>
  obtain ⟨⟨eb,sb⟩,r3,r4⟩:=ag (show au (bdy sa) _=some h' from r2)
  cases eb with
  |exit i=>cases r4
  |ret=>cases r4
  |nrm=>
  have r4:rfA asg bdy x s.t (xs.drop (k+1)) sb.h=some h':=r4
  have fl:=q6 _ (.inl rfl)
  have fd:=q6 _ (.inr (.inl rfl))
  have Sa:SOk nb C ok' W ρ' ps n ⟨iM s.t x y,hk⟩ {tmps:=a.tmps.setIfInBounds x v,defers:=[]}:=by
   refine ⟨q3,⟨by simpa using S.tm.size,fun i hi=>S.tm.inn i (by rw [gK] at hi;exact hi),S.tm.low,fun i=>?_⟩,Marks.nil _ _ _ _ _,Nat.le_trans S.nl q2.size⟩
   show V ok' W (aW (iM s.t x y) i) ρ' ((a.tmps.setIfInBounds x v).getD i undef)
   by_cases hi:i=x
   ·subst hi
    cases ht:tin s.t i with
    |true=>
     rw [eo _ _ _ ht,jg,if_pos ⟨rfl,Nat.lt_of_lt_of_le (S.tm.low i (S.tm.inn i ht)) S.tm.size⟩]
     exact hV _ _ _
    |false=>rw [gV _ _ (by rw [gK];exact ht)];simp only [V]
   ·rw [dG _ _ _ _ hi,jg,if_neg (fun h=>hi h.1.symm)]
    exact V.up _ q2.up (S.tm.get i)
  have hyl:=run_yield (P:=P) (args:= #[v]) q4 (by rw [hrec];rfl)
  refine ⟨fn,a.tmps.setIfInBounds x v,assign,body,by rw [hyl,hrec];simp,roundIn_of_wpIn trivial ?_⟩
  rw [←hA] at r1
  refine wpIn_mono (yQ X H (w.heap.size+1) 0 assign hcalm.1 r1 hb2.1 Sa) ?_
  rintro ee a1 w1 ⟨rfl,ok1,ρ1,E1',S1⟩
  have f1:=fl.ext q3 E1'
  have d1:=fd.ext q3 E1'
  have l1:w1.heap[w.heap.size+1]? =some (.loop (rec .ready none)):=f1.2.trans q4
  have B1:=Ext.trans S.inv q2 E1'
  obtain ⟨B2,J2,U2,s2,k2⟩:=Ext.om S.inv B1 S1.inv f1.1 (by omega) (by simp [World.shape?,l1]) (.loop {rec .ready none with state:=.busy})
  refine ⟨_,run_beginRound l1 (by rw [hrec]),?_⟩
  have S2:SOk nb C ok1 (w1.putObj (w.heap.size+1) (.loop {rec .ready none with state:=.busy})) ρ1 ps n sa a1:=⟨J2,⟨S1.tm.size,S1.tm.inn,S1.tm.low,fun i=>V.up _ U2 (S1.tm.get i)⟩,S1.df.adw k2 (by rw [l1];simp),by rw [s2];exact S1.nl⟩
  have l2:(w1.putObj (w.heap.size+1) (.loop {rec .ready none with state:=.busy})).heap[w.heap.size+1]? =some (.loop {rec .ready none with state:=.busy}):=World.putObj_heap_same f1.1.lt
  generalize hw2:w1.putObj (w.heap.size+1) (.loop {rec .ready none with state:=.busy})=w2 at B2 J2 U2 s2 k2 S2 l2
  rw [←hB] at r3
  refine wpIn_mono (yQ X H (w.heap.size+1) 0 body hcalm.2 r3 hb2.2 S2) ?_
  rintro ee a3 w3 ⟨rfl,ok3,ρ3,E3,S3⟩
  have f3:=(f1.1.om s2).ext J2 E3
  have l3:w3.heap[w.heap.size+1]? =some (.loop {rec .ready none with state:=.busy}):=f3.2.trans l2
  have B3:=Ext.trans S.inv B2 E3
  have hend:=run_endRound (P:=P) none l3
  obtain ⟨B4,J4,U4,s4,k4⟩:=Ext.om S.inv B3 S3.inv f3.1 (by omega) (by simp [World.shape?,l3]) (.loop (rec .ready none))
  have re:({({rec .ready none with state:=.busy}:Loop) with state:=if (none:Option Code).isNone then .ready else .done,pending:=none}:Loop)=rec .ready none:=by rw [hrec];rfl
  rw [re] at hend
  have keep: ∀r,r≠w.heap.size+1→Frn ok' W ρ' hk r→Frn ok3 (w3.putObj (w.heap.size+1) (.loop (rec .ready none))) ρ3 sb.h r∧(w3.putObj (w.heap.size+1) (.loop (rec .ready none))).heap[r]? =W.heap[r]? :=fun r hr fr=>by
   have g1:=fr.ext q3 E1'
   have g2:=(g1.1.om s2).ext J2 E3
   exact ⟨g2.1.om s4,(k4 r hr).trans (g2.2.trans ((k2 r hr).trans g1.2))⟩
  refine ⟨_,_,hend,rfl,⟨ok3,ρ3,sb.h,r4,B4,J4,World.putObj_heap_same f3.1.lt,((keep _ (by omega) fd).2).trans q5,fun r hr=>?_,q7⟩,fun r hr=>(keep r (q7 r hr) (q6 r (.inr (.inr hr)))).2⟩
  ·by_cases hl:r=w.heap.size+1
   ·subst hl;exact f3.1.om s4
   ·exact (keep r hl (q6 r hr)).1
 ·refine ⟨ok,ρ,s.h,by rw [List.drop_zero];exact e1,E12,I2,hL1,hD1,fun r hr=>?_,fun r hr=>nomatch hr⟩
  rcases hr with rfl|rfl|h
  ·exact F2
  ·exact F1'.1
  ·cases h
end
end Go.Proofs.YteapfopaiocpeaaGreatDoor
namespace Go.Proofs.YteapfopaiocpeaaGreatDoor
set_option linter.unusedSimpArgs false
set_option linter.unusedVariables false
set_option linter.unnecessarySimpa false
section
variable {nb:Nat} {P:Program} {C:Cx} {run:Run} {lp:Lp}
theorem uh {ps:List Nat} {a b:Code} {ka kb k1 k2:K} (e:tU C ps a b ka kb= .seq k1 k2):k2=kb:=by
 unfold tU at e
 split at e
 ·split at e<;>cases e
  rfl
 ·cases e;rfl
theorem anr {ps:List Nat} {id jn c id1 id2 je:Nat} {nx en:Array Oper} {rest:Code} {x1 x2:Nat} {k1 k2 k3 k4:K}
 (e:comp C ps (.block id (.loop (.seq (.region jn nx false) (.seq (.cond (.tmp c) .skip (.exit id1)) (.block id2 (.seq (.region je en false) rest))))))= .block x1 (.loop (.seq k1 (.seq k2 (.block x2 (.seq k3 k4)))))):k4=comp C ps rest:=by
 have e:K.block id (.loop (tU C ps (.region jn nx false) (.seq (.cond (.tmp c) .skip (.exit id1)) (.block id2 (.seq (.region je en false) rest))) (comp C ps (.region jn nx false)) (comp C ps (.seq (.cond (.tmp c) .skip (.exit id1)) (.block id2 (.seq (.region je en false) rest))))))= .block x1 (.loop (.seq k1 (.seq k2 (.block x2 (.seq k3 k4))))):=e
 simp only [K.block.injEq,K.loop.injEq] at e
 have e1:=uh e.2
 have e2:tU C ps (.cond (.tmp c) .skip (.exit id1)) (.block id2 (.seq (.region je en false) rest)) (comp C ps (.cond (.tmp c) .skip (.exit id1))) (comp C ps (.block id2 (.seq (.region je en false) rest)))= .seq k2 (.block x2 (.seq k3 k4)):=e1.symm
 have e3:=uh e2
 have e4:K.block x2 (.seq k3 k4)= .block id2 (tU C ps (.region je en false) rest (comp C ps (.region je en false)) (comp C ps rest)):=e3
 simp only [K.block.injEq] at e4
 exact uh e4.2.symm
theorem alg (X:aX P C) (H:dg P C run) (L:afn P C lp): ∀(c:Code) {ps:List Nat} {n:Nat} {s:St} {ex:Ex} {s':St},kx C run lp (comp C ps c) s=some (ex,s')→dx n c=true→ ∀{ok:Nat→Prop} {w:World} {ρ:Rho} {a:Act},SOk nb C ok w ρ ps n s a→
 c.wp P (jX nb C ok w ρ ps n s.h ex s') a w:=by
 intro c
 induction hsz:SizeOf.sizeOf c using Nat.strongRecOn generalizing c with
 |_ msz ih0=>
 subst hsz
 have IH: ∀c',SizeOf.sizeOf c'<SizeOf.sizeOf c→ ∀{ps:List Nat} {n:Nat} {s:St} {ex:Ex} {s':St},kx C run lp (comp C ps c') s=some (ex,s')→dx n c'=true→ ∀{ok:Nat→Prop} {w:World} {ρ:Rho} {a:Act},SOk nb C ok w ρ ps n s a→
  c'.wp P (jX nb C ok w ρ ps n s.h ex s') a w:=fun c' h=>ih0 _ h c' rfl
 clear ih0
 cases c with
 |skip=>
  intro ps n s ex s' e hb ok w ρ a S
  cases e
  exact wp_skip ⟨rfl,ok,ρ,Ext.refl _ _ _ _,S⟩
 |region id ops d=>
  intro ps n s ex s' e hb ok w ρ a S
  have hb2: ∀o∈ops.toList,opB n o=true:=List.all_eq_true.1 hb
  have post: ∀a' w' ok' ρ',Ext ok w ρ s.h ok' w' ρ' s'.h→Inv C ok' w' ρ' s'.h→TOk ok' w' ρ' ps n s'.t a'.tmps→a'.defers=a.defers→jX nb C ok w ρ ps n s.h .nrm s' .normal a' w':=
   fun a' w' ok' ρ' q1 q2 q3 q4=>⟨rfl,ok',ρ',q1,q2,q3,by rw [q4];exact S.df.ext S.inv q1,Nat.le_trans S.nl q1.size⟩
  cases d with
  |false=>
   have e:fC (gR C run (flL ps ops.toList) s.t (aV C ops.toList [] ops.toList) [] s.h)=some (ex,s'):=e
   obtain ⟨h1,e2⟩:=kA e
   subst h1
   exact wp_region (wM X H hb2 S.inv S.tm e2 _ post)
  |true=>
   have e:kx C run lp (bq (fh C ops) (.draw (bC C ops.toList (bM ops.toList) 0 (aV C ops.toList [] ops.toList)) (bo C ops) (flL ps ops.toList)) (aaL C ps ops)) s=some (ex,s'):=e
   cases hok:fh C ops with
   |false=>
    rw [hok,ay] at e
    unfold aaL at e
    split at e
    ·rename_i i j _
     cases h2:zt C ops i j with
     |false=>rw [h2] at e;cases e
     |true=>
      rw [h2,aw] at e
      obtain ⟨h1,e2⟩:=kA (show fC _=some (ex,s') from e)
      subst h1
      obtain ⟨r,e3,e4⟩:=ag e2
      obtain ⟨e5,e6⟩:=ax e4
      cases e6
      unfold alF at e5
      split at e5
      ·rename_i t h t' h' q1 q2
       rw [Bool.and_eq_true] at e5
       have g1:=py e5.1
       have g2:=mT e5.2
       cases q1
       subst g1;subst g2
       exact ajS X H h2 hb2 S.inv S.tm e3 q2 _ post
      ·cases e5
    ·cases e
   |true=>
    rw [hok,aw] at e
    obtain ⟨h1,e2⟩:=kA (show fC (jR C run (flL ps ops.toList) s.t (bC C ops.toList (bM ops.toList) 0 (aV C ops.toList [] ops.toList)) (bo C ops) s.h)=some (ex,s') from e)
    subst h1
    exact aok X H hok hb2 S.inv S.tm e2 _ post
 |seq x y=>
  intro ps n s ex s' e hb0 ok w ρ a S
  have ihx:=fun {ps n s ex s'}=>@IH x (by simp;omega) ps n s ex s'
  have ihy:=fun {ps n s ex s'}=>@IH y (by simp;omega) ps n s ex s'
  have hb:(dx n x&&dx n y)=true:=hb0
  have e:kx C run lp (tU C ps x y (comp C ps x) (comp C ps y)) s=some (ex,s'):=e
  by_cases hrm: ∃d x1 x2 k1 k2 k3 kr,aay C x y=some d∧comp C ps y= .block x1 (.loop (.seq k1 (.seq k2 (.block x2 (.seq k3 kr)))))
  ·obtain ⟨d,x1,x2,k1,k2,k3,kr,h1,h2⟩:=hrm
   unfold tU at e
   rw [h1,h2] at e
   refine asu X H h1 e hb0 (fun {id jn nx c id1 id2 je en rest} hy=>?_) S
   subst hy
   have:=anr h2
   subst this
   intro s ex s' e2 ok w ρ a S2
   have hb3:dx n rest=true:=by
    simp only [dx,Bool.and_eq_true] at hb
    exact hb.2.2.2.2
   exact IH rest (by simp;omega) e2 hb3 S2
  have e:kx C run lp (.seq (comp C ps x) (comp C ps y)) s=some (ex,s'):=by
   unfold tU at e
   split at e
   ·rename_i d hd
    split at e
    ·rename_i x1 k1 k2 x2 k3 kr hk
     exact absurd ⟨d,x1,x2,k1,k2,k3,kr,hd,hk⟩ hrm
    ·exact e
   ·exact e
  rw [Bool.and_eq_true] at hb
  obtain ⟨⟨ex1,s1⟩,e1,e2⟩:=ag (show au (kx C run lp (comp C ps x) s) (uo (kx C run lp (comp C ps y)))=some (ex,s') from e)
  refine wp_seq (wp_mono (ihx e1 hb.1 S) ?_)
  rintro e a1 w1 ⟨rfl,ok1,ρ1,E1,S1⟩
  rcases xm e2 with ⟨h1,h2⟩|⟨h1,h2⟩
  ·simp only at h1 h2
   subst h1
   exact wp_mono (ihy h2 hb.2 S1) (fun _ _ _ p=>p.trans S E1)
  ·cases h2
   exact lA h1 ⟨rfl,ok1,ρ1,E1,S1⟩
 |cond x th el=>
  intro ps n s ex s' e hb ok w ρ a S
  have iht:=fun {ps n s ex s'}=>@IH th (by simp;omega) ps n s ex s'
  have ihe:=fun {ps n s ex s'}=>@IH el (by simp;omega) ps n s ex s'
  have hb:(dx n th&&dx n el)=true:=hb
  rw [Bool.and_eq_true] at hb
  have e:kIf (ev C [] s.t (od [] x)) (kx C run lp (comp C ps th)) (kx C run lp (comp C ps el)) s=some (ex,s'):=e
  have hx:=S.tm.ri.operand S.inv x
  cases hv:ev C [] s.t (od [] x)<;>rw [hv] at e hx<;>try (cases e;done)
  rename_i b
  simp only [V] at hx
  cases b with
  |true=>exact wp_cond_true hx (iht e hb.1 S)
  |false=>exact wp_cond_false hx (ihe e hb.2 S)
 |block id b=>
  intro ps n s ex s' e hb ok w ρ a S
  have ih:=fun {ps n s ex s'}=>@IH b (by first|(simp;done)|(simp;omega)) ps n s ex s'
  obtain ⟨⟨ex1,s1⟩,e1,e2⟩:=ag (show au (kx C run lp (comp C ps b) s) (apf id)=some (ex,s') from e)
  refine wp_block (wp_mono (ih e1 hb S) ?_)
  rintro e a1 w1 ⟨rfl,ok1,ρ1,E1,S1⟩
  cases ex1 with
  |nrm=>cases e2;exact ⟨rfl,ok1,ρ1,E1,S1⟩
  |ret=>cases e2;exact ⟨rfl,ok1,ρ1,E1,S1⟩
  |exit i=>
   have e2:bq (Nat.beq i id) (some (.nrm,s1)) (some (.exit i,s1))=some (ex,s'):=e2
   show (if i=id then _ else _)
   cases hi:Nat.beq i id with
   |true=>
    rw [hi] at e2;cases e2
    rw [if_pos (Nat.eq_of_beq_eq_true hi)]
    exact ⟨rfl,ok1,ρ1,E1,S1⟩
   |false=>
    rw [hi] at e2;cases e2
    rw [if_neg (fun c=>by rw [c,Nat.beq_refl] at hi;cases hi)]
    exact ⟨rfl,ok1,ρ1,E1,S1⟩
 |loop b=>
  intro ps n s ex s' e hb ok w ρ a S
  exact (L nb b ps n s ex s' e hb ok w ρ a S).wp
 |rangeFunc f pa assign body=>
  intro ps n s ex s' e hb ok w ρ a S
  exact asr X H e hb S
 |exit id=>
  intro ps n s ex s' e hb ok w ρ a S
  cases e
  exact wp_exit ⟨rfl,ok,ρ,Ext.refl _ _ _ _,S⟩
 |scope b=>
  intro ps n s ex s' e hb ok w ρ a S
  have ih:=fun {ps n s ex s'}=>@IH b (by first|(simp;done)|(simp;omega)) ps n s ex s'
  refine wp_scope_straight (wp_mono (ih e hb S) ?_)
  rintro e a1 w1 ⟨rfl,p⟩
  cases ex<;>exact ⟨rfl,p⟩
 |label l=>
  intro ps n s ex s' e hb ok w ρ a S
  cases e
  exact wp_label ⟨rfl,ok,ρ,Ext.refl _ _ _ _,S⟩
 |goto l=>intro ps n s ex s' e;cases e
 |ret=>
  intro ps n s ex s' e hb ok w ρ a S
  cases e
  exact wp_ret ⟨rfl,ok,ρ,Ext.refl _ _ _ _,S⟩
 |refuse why=>intro ps n s ex s' e;cases e
theorem aq4 (X:aX P C) (H:dg P C run) (L:afn P C lp):afn P C (lpF C run lp):=by
 intro nb c ps n s ex s' e hb ok w ρ a S
 obtain ⟨⟨ex1,s1⟩,e1,e2⟩:=ag (show au (kx C run lp (comp C ps c) s) (uo (lp (comp C ps c)))=some (ex,s') from e)
 refine lE (wp_mono (alg X H L c e1 hb S) ?_)
 rintro e a1 w1 ⟨rfl,ok1,ρ1,E1,S1⟩
 rcases xm e2 with ⟨h1,h2⟩|⟨h1,h2⟩
 ·simp only at h1 h2
  subst h1
  have:=L nb c ps n s1 ex s' h2 hb ok1 w1 ρ1 a1 S1
  intro b k cs
  obtain ⟨e,a',w',q,r⟩:=this b k cs
  exact ⟨e,a',w',q.trans S E1,r⟩
 ·cases h2
  exact lA h1 ⟨rfl,ok1,ρ1,E1,S1⟩
end
end Go.Proofs.YteapfopaiocpeaaGreatDoor
namespace Go.Proofs.YteapfopaiocpeaaGreatDoor
set_option linter.unusedSimpArgs false
set_option linter.unusedVariables false
set_option linter.unnecessarySimpa false
section
variable {nb:Nat} {P:Program} {C:Cx} {ok:Nat→Prop} {w:World} {ρ:Rho} {h:AH} {run:Run} {lp:Lp}
theorem yc: ∀(k:Nat) (l:List Nat) (i:Nat),aW (vd k l) i= .bot
 |0,l,i=>by unfold vd;rfl
 |k+1,[],i=>rfl
 |k+1,[a],i=>by show bq (Nat.beq i a) AV.bot AV.bot=_;cases Nat.beq i a<;>rfl
 |k+1,a::b::l,i=>by
  show aW (.nd _ (vd k _) (vd k _)) i=_
  rw [iN]
  cases Nat.ble _ i with
  |true=>exact yc k _ i
  |false=>exact yc k _ i
theorem ac6: ∀(k:Nat) (l:List Nat) (i:Nat),tin (vd k l) i=true→i∈l
 |0,l,i,h=>by unfold vd at h;cases h
 |k+1,[],i,h=>by cases h
 |k+1,[a],i,h=>by have:Nat.beq i a=true:=h;rw [Nat.eq_of_beq_eq_true this];simp
 |k+1,a::b::l,i,h=>by
  have h:tin (.nd _ (vd k _) (vd k _)) i=true:=h
  rw [kO] at h
  cases hm:Nat.ble _ i with
  |true=>rw [hm] at h;exact List.mem_of_mem_drop (ac6 k _ i h)
  |false=>rw [hm] at h;exact List.mem_of_mem_take (ac6 k _ i h)
theorem wo: ∀(args:List AV) (i:Nat) (t:Tms) (j:Nat),tin (aih args i t) j=tin t j
 |[],_,_,_=>rfl
 |v::r,i,t,j=>(wo r (i+1) (iM t i v) j).trans (gK t i v j)
theorem aax {X:Nat→Value}: ∀(args:List AV) (i:Nat) (t:Tms),(∀j,V ok w (aW t j) ρ (X j))→(∀q v,args[q]? =some v→V ok w v ρ (X (i+q)))→ ∀j,V ok w (aW (aih args i t) j) ρ (X j)
 |[],_,_,h,_=>h
 |v::r,i,t,h,ha=>by
  refine aax r (i+1) (iM t i v) (fun j=>?_) (fun q u hq=>?_)
  ·by_cases hj:j=i
   ·subst hj
    cases ht:tin t j with
    |true=>rw [eo t j v ht];exact ha 0 v rfl
    |false=>rw [gV _ _ (by rw [gK];exact ht)];simp only [V]
   ·rw [dG t i v j hj];exact h j
  ·have:=ha (q+1) u (by simpa using hq)
   rwa [show i+(q+1)=i+1+q by omega] at this
theorem aoX {args:List AV} {us:List Value} {ps:List Nat} {n:Nat} (hv:VL ok w args ρ us) (hl:args.length≤n) (hp: ∀i∈ps,i<n):TOk ok w ρ ps n (aea args ps) (us.toArray++Array.replicate (n-us.toArray.size) undef):=by
 have ul:=bQ hv
 refine ⟨by simp;omega,fun i hi=>?_,hp,?_⟩
 ·exact ac6 40 ps i ((wo args 0 _ i).symm.trans hi)
 ·refine aax (X:=fun j=>(us.toArray++Array.replicate (n-us.toArray.size) undef).getD j undef) args 0 _ (fun j=>?_) (fun q v hq=>?_)
  ·rw [yc];simp only [V]
  ·obtain ⟨u,k1,k2⟩:=pn hv hq
   have hlt:=(List.getElem?_eq_some_iff.1 k1).1
   have:(us.toArray++Array.replicate (n-us.toArray.size) undef).getD (0+q) undef=u:=by
    rw [Nat.zero_add,Array.getD_eq_getD_getElem?,Array.getElem?_append_left (by simpa using hlt)]
    simp [k1]
   rw [this]
   exact k2
theorem anR {x:Option Rs} {y:AV×AH} (e:vhO x=some y):x=some (.vh y.1 y.2):=by
 unfold vhO at e
 split at e
 ·cases e;rfl
 ·cases e
def aoQ (tmps:Array Value):ResultVar→Sem Value
 | .tmp t=>pure (tmps.getD t undef)
 | .cell b t=>do loadVar t (←asAddr (tmps.getD b undef))
theorem acX (fn:Func) (tmps:Array Value):results fn tmps=(do let vs ←fn.results.mapM (aoQ tmps);pure (if h:vs.size=1 then vs[0] else .tuple vs)):=by
 unfold results
 congr 2
theorem adl (X:aX P C) {ps:List Nat} {n:Nat} {s:St} {a:Act} (S:SOk nb C ok w ρ ps n s a): ∀{l:List ResultVar} {vs:List AV},nD C s.h s.t l=some vs→
 ∃us:List Value,(l.mapM (aoQ a.tmps)).run P w= .ok us w∧VL ok w vs ρ us
 |[],vs,e=>by cases e;exact ⟨[],by simp,by simp [VL]⟩
 | .tmp i::l,vs,e=>by
   simp only [nD] at e
   split at e
   ·rename_i r hr
    cases e
    obtain ⟨us,h1,h2⟩:=adl X S hr
    refine ⟨a.tmps.getD i undef::us,?_,by simp only [VL];exact ⟨_,_,rfl,S.tm.get i,h2⟩⟩
    rw [List.mapM_cons]
    simp only [aoQ,Sem.run_bind,Sem.run_pure,Result.andThen_ok,h1]
   ·cases e
 | .cell b ty::l,vs,e=>by
   simp only [nD] at e
   split at e
   ·rename_i x r hx hr
    cases e
    obtain ⟨us,h1,h2⟩:=adl X S hr
    have hx:=anR hx
    have hb:=S.tm.get b
    unfold ad3 at hx
    split at hx
    ·rename_i ti ht
     have pu:Pu P ok w ρ s.h kVH (.vh x.1 x.2) (Instr.loadAt ty (a.tmps.getD b undef)):=by
      cases ha:ti.agg with
      |true=>rw [ha] at hx;exact vc (X.ty _ _ ht) ha S.inv hb hx
      |false=>rw [ha] at hx;exact uB (X.ty _ _ ht) ha S.inv hb hx
     obtain ⟨v,z,k1,k2,k3⟩:=pu
     have k1:some (Rs.vh v s.h)=some (Rs.vh x.1 x.2):=k1
     have hxv:v=x.1:=by cases x;cases k1;rfl
     subst hxv
     have hp: ∃q,a.tmps.getD b undef= .pointer (some q):=by
      cases ha:ti.agg with
      |true=>rw [ha] at hx;rcases gD (show lW _ _ _=some _ from hx) with ⟨b',o,h,_⟩|⟨b',o,h,_⟩<;>rw [h] at hb<;>first|exact aba hb|exact aaR hb
      |false=>rw [ha] at hx;rcases gD (show lW _ _ _=some _ from hx) with ⟨b',o,h,_⟩|⟨b',o,h,_⟩<;>rw [h] at hb<;>first|exact aba hb|exact aaR hb
     obtain ⟨q,hq⟩:=hp
     rw [hq] at k3
     have k3:(loadVar ty q).run P w= .ok z w:=by simpa [Instr.loadAt,Instr.sureAddr] using k3
     refine ⟨z::us,?_,by simp only [VL];exact ⟨_,_,rfl,k2,h2⟩⟩
     rw [List.mapM_cons]
     simp only [aoQ,Sem.run_bind,hq,asAddr,Sem.run_pure,Result.andThen_ok,k3,h1]
    ·cases hx
   ·cases e
theorem aqr {vs:List AV} {us:List Value} (hv:VL ok w vs ρ us):V ok w (abM vs) ρ (if h:us.toArray.size=1 then us.toArray[0] else .tuple us.toArray):=by
 have hl:=bQ hv
 unfold abM
 split
 ·simp only [VL] at hv
  obtain ⟨u,r,rfl,h1,rfl⟩:=hv
  simpa using h1
 ·rename_i hn
  have: ¬(us.toArray.size=1):=by
   intro c
   have:vs.length=1:=by simp at c;omega
   obtain ⟨v,rfl⟩:=List.length_eq_one_iff.1 this
   exact hn v rfl
  rw [dif_neg this]
  simp only [V]
  exact ⟨us.toArray,rfl,hv⟩
theorem Up.trans {ok ok1 ok2:Nat→Prop} {w w1 w2:World} {ρ ρ1 ρ2:Rho} (a:Up ok w ρ ok1 w1 ρ1) (b:Up ok1 w1 ρ1 ok2 w2 ρ2):Up ok w ρ ok2 w2 ρ2:=
 ⟨fun r h=>(b.okb r (a.oku r h)).trans (a.okb r h),fun r h=>b.oku r (a.oku r h),fun r s h=>b.shp r s (a.shp r s h),fun n r h=>b.nam n r (a.nam n r h)⟩
theorem aaj {fn:Func} {tmps:Array Value} {R:Ending→World→Prop} {w0:World} {ok1:Nat→Prop} {ρ1:Rho} {h1:AH} {m:Nat} (I0:Inv C ok w0 ρ h): ∀(l:List Nat) (w1:World),l.Nodup→(∀D∈l,Mark w0.heap.size ok1 w1 ρ1 h1 D)→Inv C ok1 w1 ρ1 h1→Ext ok w0 ρ h ok1 w1 ρ1 h1→
 (∀w2,Inv C ok1 w2 ρ1 h1→Ext ok w0 ρ h ok1 w2 ρ1 h1→Up ok1 w1 ρ1 ok1 w2 ρ1→ ∃v,(results fn tmps).run P w2= .ok v w2∧R (.returned v) w2)→LeavesInM Fence.wide m P fn tmps R (l.map apI) .returning w1
 |[],w1,_,_,I,E,fin=>fin w1 I E (Up.refl _ _ _)
 |D::l,w1,hn,hm,I,E,fin=>by
  have mD:=hm D (List.mem_cons_self ..)
  have hlt:D<w1.heap.size:=(Array.getElem?_eq_some_iff.1 mD.at_).1
  have hs:(w1.putObj D (.deferred none)).heap.size=w1.heap.size:=by simp [World.putObj]
  have hk: ∀k,k≠D→(w1.putObj D (.deferred none)).heap[k]? =w1.heap[k]? :=fun k hk=>World.putObj_heap_other hk
  obtain ⟨U,I2⟩:=oR I hs hk (by simp [World.shape?,mD.at_]) mD.nok mD.free
  have E2:=nA I0 E mD.low U hs hk rfl rfl rfl
  refine ⟨by simp,.inl ⟨D,_,rfl,run_takeDeferred mD.at_,?_⟩⟩
  refine aaj I0 l _ (List.nodup_cons.1 hn).2 (fun D' hD'=>?_) I2 E2 (fun w2 I3 E3 U3=>fin w2 I3 E3 (Up.trans U U3))
  have hne:D'≠D:=fun e=>(List.nodup_cons.1 hn).1 (e▸hD')
  have m':=hm D' (List.mem_cons_of_mem _ hD')
  exact ⟨m'.low,by rw [hk D' hne];exact m'.at_,m'.nok,m'.free⟩
theorem aeL (X:aX P C) (H:dg P C run) (L:afn P C lp):dg P C (cW C run lp):=by
 intro f args h r h' e
 unfold cW at e
 split at e
 ·rename_i g hg
  exact X.orc f g hg run H args h r h' e
 ·obtain ⟨fk,e1,e2⟩:=ag (show au (dp C f) _=some (r,h') from e)
  obtain ⟨fn,e3,e4⟩:=ag (show au (C.fn f) (acF C)=some fk from e1)
  obtain ⟨hf,hname⟩:=X.fn f fn e3
  unfold acF at e4
  split at e4
  ·rename_i c hc
   obtain ⟨e5,e6⟩:=ax (show bq _ _ none=some fk from e4)
   cases e6
   rw [Bool.and_eq_true] at e5
   obtain ⟨e51,e52⟩:=e5
   have hp: ∀i∈acq (pV [] c) fn.results.toList,i<fn.ntmps:=by
    intro i hi
    have:=List.all_eq_true.1 e52 i hi
    simpa [Nat.blt_eq] using this
   obtain ⟨e7,e8⟩:=ax (show bq _ _ none=some (r,h') from e2)
   have e7:=Nat.le_of_ble_eq_true e7
   rw [ah] at e7
   obtain ⟨⟨ex,s'⟩,e9,e10⟩:=ag e8
   refine ⟨⟨fn,hf,hname,by rw [hc];rfl⟩,fun ok w ρ us I hv=>?_⟩
   refine (callsIn_wide (n:=1)).1 (callsIn_of_wp_marks hf hc trivial ?_ rfl)
   have S:SOk w.heap.size C ok w ρ (acq (pV [] c) fn.results.toList) fn.ntmps ⟨aea args (acq (pV [] c) fn.results.toList),h⟩ {tmps:=us.toArray++Array.replicate (fn.ntmps-us.toArray.size) undef,defers:=[]}:=⟨I,aoX hv e7 hp,Marks.nil _ _ _ _ _,Nat.le_refl _⟩
   refine wpIn_wide.2 (wp_mono (alg X H L c e9 e51 S) ?_)
   rintro e a1 w1 ⟨rfl,ok1,ρ1,E1,S1⟩
   unfold aqh at e10
   have fin: ∀l,nD C s'.h s'.t fn.results.toList=some l→r=abM l→h'=s'.h→LeavesInM Fence.wide 1 P fn a1.tmps (fun e w'=>∃u ok' ρ',e= .returned u∧Ext ok w ρ h ok' w' ρ' h'∧Inv C ok' w' ρ' h'∧V ok' w' r ρ' u) a1.defers .returning w1:=by
    rintro l hl rfl rfl
    obtain ⟨ms,d1,d2,d3⟩:=S1.df
    rw [d1]
    refine aaj I ms w1 d2 d3 S1.inv E1 fun w2 I2 E2 U2=>?_
    have S2:SOk w.heap.size C ok1 w2 ρ1 (acq (pV [] c) fn.results.toList) fn.ntmps s' {a1 with defers:=[]}:=⟨I2,⟨S1.tm.size,S1.tm.inn,S1.tm.low,fun i=>V.up _ U2 (S1.tm.get i)⟩,Marks.nil _ _ _ _ _,E2.size⟩
    obtain ⟨vs,k1,k2⟩:=adl X S2 hl
    refine ⟨_,?_,_,ok1,ρ1,rfl,E2,I2,aqr k2⟩
    rw [acX,Array.mapM_eq_mapM_toList]
    simp only [Sem.run_bind,Sem.run_map,k1,Result.andThen_ok,Sem.run_pure]
   cases ex with
   |exit i=>cases e10
   |nrm=>
    simp only at e10
    split at e10
    ·rename_i l hl;cases e10;exact fin l hl rfl rfl
    ·cases e10
   |ret=>
    simp only at e10
    split at e10
    ·rename_i l hl;cases e10;exact fin l hl rfl rfl
    ·cases e10
  ·cases e4
theorem apA (X:aX P C): ∀n,dg P C (rl C n).run∧afn P C (rl C n).lp
 |0=>⟨fun f args h r h' e=>(by cases e),fun nb c ps n s ex s' e=>(by cases e)⟩
 |n+1=>by
  obtain ⟨h1,h2⟩:=apA X n
  exact ⟨aeL X h1 h2,aq4 X h1 h2⟩
theorem anA (X:aX P C) (n:Nat):dg P C (runN C n):=(apA X n).1
theorem adZ {ok:Nat→Prop} {w:World} {ρ:Rho} {t:Tm} {f:Nat→Value} (h: ∀i,V ok w (aW t i) ρ (f i)): ∀l:List Nat,VL ok w (cU (aW t) l) ρ (l.map f)
 |[]=>by simp [cU,VL]
 |k::l=>by
  show VL ok w (aW t k::cU (aW t) l) ρ (f k::l.map f)
  simp only [VL]
  exact ⟨_,_,rfl,h k,adZ h l⟩
theorem aam {ok:Nat→Prop} {w:World} {ρ:Rho}: ∀{us vs:List Value} {l:List AV},VL ok w l ρ (us++vs)→ ∃a b,l=a++b∧VL ok w a ρ us∧VL ok w b ρ vs
 |[],vs,l,h=>⟨[],l,rfl,by simp [VL],h⟩
 |u::us,vs,l,h=>by
  cases l with
  |nil=>simp [VL] at h
  |cons x l=>
   simp only [VL] at h
   obtain ⟨u',r,e,h1,h2⟩:=h
   simp only [List.cons_append,List.cons.injEq] at e
   obtain ⟨rfl,rfl⟩:=e
   obtain ⟨a,b,rfl,g1,g2⟩:=aam h2
   exact ⟨x::a,b,rfl,by simp only [VL];exact ⟨_,_,rfl,h1,g1⟩,g2⟩
theorem uR {ok:Nat→Prop} {w:World} {ρ:Rho} {f:Nat→Value}: ∀(t:Tm) (l r:List AV),VL ok w l ρ ((p7 t).map f)→(oD t (l++r)).2=r∧(∀i,V ok w (aW (oD t (l++r)).1 i) ρ (f i))∧ ∀i,tin (oD t (l++r)).1 i=tin t i
 | .nl,l,r,h=>by
   have:l=[]:=by
    cases l with
    |nil=>rfl
    |cons a l=>simp [p7,VL] at h
   subst this
   exact ⟨rfl,fun i=>by show V ok w .bot ρ _;simp only [V],fun i=>rfl⟩
 | .lf k v,l,r,h=>by
   have h:VL ok w l ρ [f k]:=h
   cases l with
   |nil=>simp [VL] at h
   |cons a l=>
    simp only [VL] at h
    obtain ⟨u',r',e,h1,h2⟩:=h
    simp only [List.cons.injEq] at e
    obtain ⟨rfl,rfl⟩:=e
    cases l with
    |cons b l=>simp [VL] at h2
    |nil=>
     refine ⟨rfl,fun i=>?_,fun i=>rfl⟩
     show V ok w (bq (Nat.beq i k) a .bot) ρ (f i)
     cases hb:Nat.beq i k with
     |true=>rw [aw,Nat.eq_of_beq_eq_true hb];exact h1
     |false=>rw [ay];simp only [V]
 | .nd m x y,l,r,h=>by
   have h:VL ok w l ρ ((aJ (p7 x) (p7 y)).map f):=h
   rw [aP,List.map_append] at h
   obtain ⟨a,b,rfl,h1,h2⟩:=aam h
   obtain ⟨g1,g2,g3⟩:=uR x a (b++r) h1
   obtain ⟨k1,k2,k3⟩:=uR y b r h2
   have e:oD (.nd m x y) (a++b++r)=(.nd m (oD x (a++(b++r))).1 (oD y (oD x (a++(b++r))).2).1,(oD y (oD x (a++(b++r))).2).2):=by rw [List.append_assoc];rfl
   rw [e,g1]
   refine ⟨k1,fun i=>?_,fun i=>?_⟩
   ·show V ok w (aW (.nd m _ _) i) ρ _
    rw [iN]
    cases Nat.ble m i with
    |true=>exact k2 i
    |false=>exact g2 i
   ·show tin (.nd m _ _) i=tin (.nd m x y) i
    rw [kO,kO,g3,k3]
theorem anT (k:Nat) (l:List AV) (h:AH): ∃l',(gcA k (.tup l,h)).1= .tup l':=by
 unfold gcA
 rw [alC,abW]
 unfold gcK
 cases and (and (ach _ k) ((AV.tup l).amw _)) _ with
 |true=>exact ⟨_,rfl⟩
 |false=>exact ⟨_,rfl⟩
theorem aq6 {ok:Nat→Prop} {w:World} {ρ:Rho} {h:AH} (I:Inv C ok w ρ h) {ps:List Nat} {n:Nat} {ok1:Nat→Prop} {w1:World} {ρ1:Rho} {s:St} {a:Act} (E:Ext ok w ρ h ok1 w1 ρ1 s.h) (S:SOk nb C ok1 w1 ρ1 ps n s a):
 ∃ρ2,Ext ok w ρ h ok1 w1 ρ2 (gcL (aj h) s).h∧SOk nb C ok1 w1 ρ2 ps n (gcL (aj h) s) a:=by
 unfold gcL
 cases Nat.ble (Nat.add (aj h) 24) (aj s.h) with
 |false=>exact ⟨ρ1,E,S⟩
 |true=>
  rw [aw]
  unfold gcS
  rw [ah]
  have hv:V ok1 w1 (.tup (cU (aW s.t) (p7 s.t))) ρ1 (.tuple ((p7 s.t).map fun i=>a.tmps.getD i undef).toArray):=by
   simp only [V]
   exact ⟨_,rfl,adZ (f:=fun i=>a.tmps.getD i undef) S.tm.get _⟩
  obtain ⟨ρ2,E2,I2,V2,sub⟩:=ak2 I E S.inv hv
  obtain ⟨l',hl⟩:=anT h.length (cU (aW s.t) (p7 s.t)) s.h
  generalize gcA h.length (.tup (cU (aW s.t) (p7 s.t)),s.h)=x at*
  obtain ⟨x1,x2⟩:=x
  simp only at hl
  subst hl
  simp only [V] at V2
  obtain ⟨us,e,V2⟩:=V2
  cases e
  obtain ⟨_,g2,g3⟩:=uR (f:=fun i=>a.tmps.getD i undef) s.t l' [] V2
  rw [List.append_nil] at g2 g3
  refine ⟨ρ2,E2,I2,⟨S.tm.size,fun i hi=>S.tm.inn i (by rw [←g3];exact hi),S.tm.low,g2⟩,?_,S.nl⟩
  obtain ⟨ms,m1,m2,m3⟩:=S.df
  refine ⟨ms,m1,m2,fun D hD=>⟨(m3 D hD).low,(m3 D hD).at_,(m3 D hD).nok,fun n hn e=>?_⟩⟩
  obtain ⟨m,hm,em⟩:=sub n D hn e
  exact (m3 D hD).free m hm em
def aa4 (P:Program) (C:Cx) (lp:Nat→Lp):Prop:=∀(nb:Nat) c ps n k s ex s',lp k (comp C ps c) s=some (ex,s')→dx n c=true→ ∀okB wB ρB hB,Inv C okB wB ρB hB→aj hB=k→ ∀ok w ρ a,Ext okB wB ρB hB ok w ρ s.h→SOk nb C ok w ρ ps n s a→mK P c (jX nb C okB wB ρB ps n hB ex s') a w
theorem aa4.toLp {lp:Nat→Lp} (L:aa4 P C lp):afn P C (fun b s=>lp (aj s.h) b s):=fun nb c ps n s ex s' e hb ok w ρ a S=>
 L nb c ps n _ s ex s' e hb ok w ρ s.h S.inv rfl ok w ρ a (Ext.refl _ _ _ _) S
theorem aqR {lp:Nat→Lp} (X:aX P C) (H:dg P C run) (L:aa4 P C lp):aa4 P C (lpG C run lp):=by
 intro nb c ps n k s ex s' e hb okB wB ρB hB IB hk ok w ρ a B S
 obtain ⟨⟨ex1,s1⟩,e1,e2⟩:=ag (show au (kx C run (fun b s=>lp (aj s.h) b s) (comp C ps c) s) (fun x=>Ex.rec (motive:=fun _=>Option (Ex×St)) (lp k (comp C ps c) (gcL k x.2)) (fun _=>some x) (some x) x.1)=some (ex,s') from e)
 refine lE (wp_mono (alg X H L.toLp c e1 hb S) ?_)
 rintro e a1 w1 ⟨rfl,ok1,ρ1,E1,S1⟩
 have B1:=Ext.trans IB B E1
 cases ex1 with
 |nrm=>
  have e2:lp k (comp C ps c) (gcL k s1)=some (ex,s'):=e2
  subst hk
  obtain ⟨ρ2,E2,S2⟩:=aq6 IB B1 S1
  exact L nb c ps n _ _ ex s' e2 hb okB wB ρB hB IB rfl ok1 w1 ρ2 a1 E2 S2
 |exit i=>cases e2;exact lA (by simp) ⟨rfl,ok1,ρ1,B1,S1⟩
 |ret=>cases e2;exact lA (by simp) ⟨rfl,ok1,ρ1,B1,S1⟩
theorem apJ (X:aX P C): ∀n,dg P C (rg C n).run∧aa4 P C (rg C n).lp
 |0=>⟨fun f args h r h' e=>(by cases e),fun nb c ps n k s ex s' e=>(by cases e)⟩
 |n+1=>by
  obtain ⟨h1,h2⟩:=apJ X n
  exact ⟨aeL X h1 h2.toLp,aqR X h1 h2⟩
theorem tz (X:aX P C) (n:Nat):dg P C (runG C n):=(apJ X n).1
end
end Go.Proofs.YteapfopaiocpeaaGreatDoor
namespace Go.Proofs.YteapfopaiocpeaaGreatDoor
set_option linter.unusedSimpArgs false
set_option linter.unusedVariables false
set_option linter.unnecessarySimpa false
def kindOf:TypeDesc→TK
 | .bool=>.bool
 | .int k=>.int k
 | .string=>.string
 | .pointer e=>.pointer e
 | .slice e=>.slice e
 | .array n e=>.array n e
 | .map k e=>.map k e
 | .struct F=>.struct (F.toList.map fun f=>(f.offset,f.type))
 | .func _ _ _=>.func
 | .interface _=>.iface
 |_=>.other
def x8:IntKind→IntKind→Bool
 | .i8,.i8| .i16,.i16| .i32,.i32| .i64,.i64| .u8,.u8| .u16,.u16| .u32,.u32| .u64,.u64=>true
 |_,_=>false
def nc:List (Nat×Nat)→List (Nat×Nat)→Bool
 |[],[]=>true
 |a::r,b::s=>Nat.beq a.1 b.1&&Nat.beq a.2 b.2&&nc r s
 |_,_=>false
def TK.same:TK→TK→Bool
 | .bool,.bool| .string,.string| .func,.func| .iface,.iface=>true
 | .int k,.int l=>x8 k l
 | .pointer a,.pointer b| .slice a,.slice b=>Nat.beq a b
 | .array a b,.array c d| .map a b,.map c d=>Nat.beq a c&&Nat.beq b d
 | .struct a,.struct b=>nc a b
 |_,_=>false
theorem ab2 {a b:IntKind} (h:x8 a b=true):a=b:=by
 cases a<;>cases b<;>first|rfl|cases h
theorem sc: ∀{a b:List (Nat×Nat)},nc a b=true→a=b
 |[],[],_=>rfl
 |[],_::_,h=>by cases h
 |_::_,[],h=>by cases h
 |(x,y)::a,(z,u)::b,h=>by
  have h:(Nat.beq x z&&Nat.beq y u&&nc a b)=true:=h
  simp only [Bool.and_eq_true] at h
  rw [Nat.eq_of_beq_eq_true h.1.1,Nat.eq_of_beq_eq_true h.1.2,sc h.2]
theorem aov {a b:TK} (h:TK.same a b=true):a=b∧b≠ .other:=by
 cases a<;>cases b<;>first
  |cases h;done
  |exact ⟨rfl,by simp⟩
  |exact ⟨by rw [ab2 (show x8 _ _=true from h)],by simp⟩
  |exact ⟨by rw [Nat.eq_of_beq_eq_true (show Nat.beq _ _=true from h)],by simp⟩
  |exact ⟨by rw [sc (show nc _ _=true from h)],by simp⟩
  |exact ⟨by
   have h:(Nat.beq _ _&&Nat.beq _ _)=true:=h
   rw [Bool.and_eq_true] at h
   rw [Nat.eq_of_beq_eq_true h.1,Nat.eq_of_beq_eq_true h.2],by simp⟩
theorem ag9 {d:TypeDesc} {k:TK} (h:kindOf d=k) (hk:k≠ .other):j4 (some d) k:=by
 subst h
 cases d<;>simp_all [kindOf,j4]
def aggK:TK→Bool
 | .struct _| .array _ _=>true
 |_=>false
def aqe:Value→Bool
 | .agg _=>true
 |_=>false
def ptrB (P:Program):TK→Bool
 | .pointer e=>(P.info? e).isSome
 |_=>true
noncomputable def aeH (P:Program) (t:Nat) (ti:TI):Bool:=
 match P.info? t,P.underlying t with
 |some i,some d=>match i.zero with
  |some z=>TK.same (kindOf d) ti.kind&&(Nat.beq i.size ti.size&&Nat.beq i.bytes ti.bytes)&&(ou ti.agg (aggK ti.kind)&&ou ti.agg (aqe z))&&(AV.same (.agg (z.cells.toList.map cv)) (.agg ti.zero)&&Nat.beq (aj ti.zero) ti.size)&&(ti.agg||Nat.beq ti.size 1)&&ptrB P ti.kind
  |none=>false
 |_,_=>false
theorem alI {ok:Nat→Prop} {w:World} {ρ:Rho}: ∀l:List Value,VL ok w (l.map cv) ρ l
 |[]=>by simp [VL]
 |v::l=>by
  simp only [List.map_cons,VL]
  exact ⟨v,l,rfl,aja v,alI l⟩
theorem zM {P:Program} {t:Nat} {ti:TI} (h:aeH P t ti=true):cZ P t ti∧(ti.agg=false→ti.size=1):=by
 unfold aeH at h
 split at h
 ·rename_i i d hi hd
  split at h
  ·rename_i z hz
   simp only [Bool.and_eq_true,lB,beq_iff_eq] at h
   obtain ⟨⟨⟨⟨⟨h1,h2,h3⟩,h4,h5⟩,h6,h7⟩,h8⟩,h9⟩:=h
   obtain ⟨k1,k2⟩:=aov h1
   have h6:=eI _ _ h6
   have h7:=Nat.eq_of_beq_eq_true h7
   rw [ah] at h7
   refine ⟨⟨by rw [hd];exact ag9 k1 k2,?_,⟨i,z,hi,Nat.eq_of_beq_eq_true h2,Nat.eq_of_beq_eq_true h3,hz,fun ok w ρ=>by rw [←h6];exact alI _,fun ha=>?_,fun ha=>?_⟩,h7,fun e he=>?_⟩,fun ha=>?_⟩
   ·rw [h4];unfold aggK;cases ti.kind<;>rfl
   ·rw [ha] at h5
    cases z<;>first|cases h5;done|exact ⟨_,rfl⟩
   ·rw [ha] at h5
    cases z<;>first|cases h5;done|rfl
   ·rw [he] at h9
    exact Option.isSome_iff_exists.1 h9
   ·rw [ha,Bool.false_or] at h8
    exact Nat.eq_of_beq_eq_true h8
  ·cases h
 ·cases h
def wV {α:Type} (f:Nat→α→Bool):BT α→Bool
 | .nl=>true
 | .lf k v=>f k v
 | .nd _ l r=>and (wV f l) (wV f r)
theorem tL {α:Type} {f:Nat→α→Bool}: ∀{t:BT α},wV f t=true→ ∀i v,sP t i=some v→f i v=true
 | .nl,_,i,v,e=>by cases e
 | .lf k u,h,i,v,e=>by
   have h:f k u=true:=h
   have e:bq (Nat.beq i k) (some u) none=some v:=e
   obtain ⟨e1,e2⟩:=ax e
   cases e2
   rw [Nat.eq_of_beq_eq_true e1];exact h
 | .nd m l r,h,i,v,e=>by
   have h:and (wV f l) (wV f r)=true:=h
   rw [Bool.and_eq_true] at h
   have e:bq (Nat.ble m i) (sP r i) (sP l i)=some v:=e
   cases hm:Nat.ble m i with
   |true=>rw [hm] at e;exact tL h.2 i v e
   |false=>rw [hm] at e;exact tL h.1 i v e
def jD {α:Type} (p:Nat→α→Prop):BT α→Prop
 | .nl=>True
 | .lf k v=>p k v
 | .nd _ l r=>jD p l∧jD p r
theorem jD.get {α:Type} {p:Nat→α→Prop}: ∀{t:BT α},jD p t→ ∀i v,sP t i=some v→p i v
 | .nl,_,i,v,e=>by cases e
 | .lf k u,h,i,v,e=>by
   have h:p k u:=h
   have e:bq (Nat.beq i k) (some u) none=some v:=e
   obtain ⟨e1,e2⟩:=ax e
   cases e2
   rw [Nat.eq_of_beq_eq_true e1];exact h
 | .nd m l r,h,i,v,e=>by
   have h:jD p l∧jD p r:=h
   have e:bq (Nat.ble m i) (sP r i) (sP l i)=some v:=e
   cases hm:Nat.ble m i with
   |true=>rw [hm] at e;exact jD.get h.2 i v e
   |false=>rw [hm] at e;exact jD.get h.1 i v e
end Go.Proofs.YteapfopaiocpeaaGreatDoor
