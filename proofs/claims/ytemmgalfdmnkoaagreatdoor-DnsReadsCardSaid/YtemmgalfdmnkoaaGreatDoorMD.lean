/- Any order, ranges over maps, code, runs: what a run of the evaluator answers the program answers. -/
import Derived.Test.YtemmgalfdmnkoaaGreatDoorMC
import Derived.Scope
import Derived.Maps.RangeRun
import Derived.RangeFuncRecord
import Derived.RangeFuncIn
import Derived.RangeFuncCalls
import Derived.TacticsIn
import Derived.RangeFuncLeaves
import Derived.RangeFuncOwn
namespace Go.Proofs.YtemmgalfdmnkoaaGreatDoor
set_option linter.unusedSimpArgs false
set_option linter.unusedVariables false
set_option linter.unnecessarySimpa false
section
variable {P:Program} {C:Cx} {ok:Nat→Prop} {w:World} {ρ:Rho} {h:AH} {rs:Rs} {run:Run}
noncomputable def dE (C:Cx) (l:List Oper) (tr:List Tr) (h0:AH):DE where
 N:=l.length
 hp:=hpT h0 tr
 nw j:=mkB C (l.getD j default).op
 ef j:=eF C (l.getD j default).op
 hid j:=dy tr (gJ C l (cr l) j)
 B j i:=((cr l).getD j 0).testBit i=true
theorem acA {o:Op} (h:mkB C o=true):eF C o=false:=by
 cases o<;>first|rfl|(cases h;done)|(rename_i s d x;have h:qK C s d=true:=h;show (sliceTo C d&& !qK C s d)=false;rw [h];simp)
theorem aol {l:List Oper} {tr:List Tr} {h0:AH} {j:Nat} (h1:(dE C l tr h0).nw j=false) (h2:(dE C l tr h0).ef j=false):rdB C (l.getD j default).op=true:=by
 have h1:mkB C (l.getD j default).op=false:=h1;have h2:eF C (l.getD j default).op=false:=h2;unfold rdB;rw [h1,h2];rfl
structure Step (C:Cx) (run:Run) (T:Tms) (l:List Oper) (tr:List Tr) (h0:AH) (j:Nat) (f:OpA):Prop where
 new:(dE C l tr h0).nw j=true→ ∃h',f C run (sgT tr j) T (aU (hpT h0 tr j).length none) kVH=some (.vh (tr.getD j default).v h')∧(hpT h0 tr j).length≤h'.length∧h'.length≤(hpT h0 tr j).length+1∧hpT h0 tr (j+1)=hpT h0 tr j++h'.drop (hpT h0 tr j).length
 ef:(dE C l tr h0).ef j=true→ ∃h',f C run (sgT tr j) T (dt ((dE C l tr h0).hid j) (hpT h0 tr j)) kVH=some (.vh (tr.getD j default).v h')∧(hpT h0 tr j).length≤h'.length∧hpT h0 tr (j+1)=mK (hpT h0 tr j) ((dE C l tr h0).hid j) h'
 rd:(dE C l tr h0).nw j=false→(dE C l tr h0).ef j=false→hpT h0 tr (j+1)=hpT h0 tr j∧ ∃h',f C run (sgT tr j) T (dt ((dE C l tr h0).hid j) (hpT h0 tr j)) kVH=some (.vh (tr.getD j default).v h')
 sh:(tr.getD j default).h=hpT h0 tr j∧(tr.getD j default).σ=sgT tr j
theorem vX (l:List Oper) (j:Nat) (hj:j≤l.length):(l.take j).map (·.dst)=(List.range j).map fun i=>(l.getD i default).dst:=by
 apply Cz;intro i;simp only [Bn,BZ]
 by_cases hi:i<j
 ·rw [if_pos hi,Cy hi,Bd (by omega)]
  simp [Bf,Bd (show i<l.length by omega)]
 ·rw [if_neg hi,BC (by simpa using hi)]
  rfl
theorem afn {T:Tms} {l:List Oper} {tr:List Tr} {h0:AH} {j:Nat} {o:Oper} (ho:l[j]? =some o) (F:Fact C run T h0 (bZ C l (cr l) 0 (bo C l [] l)) tr j):Step C run T l tr h0 j (jV C l (((List.range j).map fun i=>(l.getD i default).dst).reverse) o).f:=by
 obtain ⟨d,h1,h2⟩:=F;rw [kI,ko,ho] at h1;simp only [CJ,Option.some.injEq,BE,Bx] at h1;have hds:=vX l j (C9 (Bc.1 ho).1);rw [hds] at h1;have hh:dy (tr.take j) (gJ C l (cr l) j)=dy tr (gJ C l (cr l) j):=xL tr j _ (fun i hi=>(pr.1 hi).2.1);have sh:=apD h2;subst h1;rcases xV h2 with ⟨a1,v,h',a2,a3,a4,a5⟩|⟨a1,v,h',a2,⟨a3,a4,a5⟩|⟨a3,a5⟩⟩
 ·have a1:mkB C (l.getD j default).op=true:=a1
  refine ⟨fun _=>⟨h',?_,a3,a4,?_⟩,fun c=>?_,fun c=>?_,sh.2,sh.1⟩
  ·rw [a5];exact a2
  ·show (tr.getD j default).h'=_
   rw [a5]
  ·have c:eF C (l.getD j default).op=true:=c
   rw [acA a1] at c;cases c
  ·rw [show (dE C l tr h0).nw j=true from a1] at c;cases c
 ·have a1:mkB C (l.getD j default).op=false:=a1
  have a2:=a2;simp only [hh] at a2 a5
  refine ⟨fun c=>?_,fun _=>⟨h',?_,a4,?_⟩,fun _ c=>?_,sh.2,sh.1⟩
  ·rw [show (dE C l tr h0).nw j=false from a1] at c;cases c
  ·rw [a5];exact a2
  ·show (tr.getD j default).h'=_
   rw [a5];rfl
  ·rw [show (dE C l tr h0).ef j=true from a3] at c;cases c
 ·have a1:mkB C (l.getD j default).op=false:=a1
  have a2:=a2;simp only [hh] at a2 a5
  refine ⟨fun c=>?_,fun c=>?_,fun _ _=>⟨?_,h',?_⟩,sh.2,sh.1⟩
  ·rw [show (dE C l tr h0).nw j=false from a1] at c;cases c
  ·rw [show (dE C l tr h0).ef j=false from a3] at c;cases c
  ·show (tr.getD j default).h'=_
   rw [a5]
  ·rw [a5];exact a2
theorem aun {T:Tms} {l:List Oper} {tr:List Tr} {h0:AH} (hl:tr.length=l.length) (F: ∀j,j<l.length→Fact C run T h0 (bZ C l (cr l) 0 (bo C l [] l)) tr j):(dE C l tr h0).Ok:=by
 have st: ∀j,j<l.length→ ∃f,Step C run T l tr h0 j f:=fun j hj=>⟨_,afn (Bd hj) (F j hj)⟩
 have mono: ∀j,j<l.length→(hpT h0 tr j).length≤(hpT h0 tr (j+1)).length:=by
  intro j hj;obtain ⟨f,S⟩:=st j hj
  cases h1:(dE C l tr h0).nw j with
  |true=>obtain ⟨h',_,_,_,e⟩:=S.new h1;rw [e,A7];omega
  |false=>
   cases h2:(dE C l tr h0).ef j with
   |true=>obtain ⟨h',_,a,e⟩:=S.ef h2;rw [e,lU];exact a
   |false=>rw [(S.rd h1 h2).1];exact A9 _
 have le: ∀(t s:Nat),s≤t→t≤l.length→(hpT h0 tr s).length≤(hpT h0 tr t).length:=by
  intro t
  induction t with
  |zero=>intro s h _;rw [Nat.le_zero.1 h];exact A9 _
  |succ t ih=>
   intro s h hN;rcases BN t s with h'|h'
   ·rw [show s=t+1 by omega];exact A9 _
   ·exact Bo (ih s h' (by omega)) (mono t (by omega))
 have trh: ∀i,i<l.length→ ∃r,tr[i]? =some r∧r.h=hpT h0 tr i∧r.h'=hpT h0 tr (i+1):=by
  intro i hi;obtain ⟨f,S⟩:=st i hi;refine ⟨tr[i],Bd (by omega),?_,?_⟩
  ·rw [←S.sh.1];simp [Bf,Bd (show i<tr.length by omega)]
  ·show _=(tr.getD i default).h'
   simp [Bf,Bd (show i<tr.length by omega)]
 refine ⟨mono,fun j hj h1 h2=>?_,fun j hj h1=>?_,fun j n hj h1 h2 h3=>?_,fun j i hj h1 h2 h3 h4 h5=>?_,fun j n hj h1=>?_,fun j c=>?_⟩
 ·obtain ⟨f,S⟩:=st j hj
  exact (S.rd h1 h2).1
 ·obtain ⟨f,S⟩:=st j hj
  obtain ⟨h',a,b,c,e⟩:=S.new h1;refine ⟨fun n hn=>?_,?_⟩
  ·show ab (hpT h0 tr (j+1)) n=_
   rw [e,←aV,cN,if_pos (show n<(hpT h0 tr j).length from hn)];rfl
  ·show (hpT h0 tr (j+1)).length≤_
   rw [e,A7,Bi];show _≤(hpT h0 tr j).length+1;omega
 ·obtain ⟨f,S⟩:=st j hj
  obtain ⟨h',a,b,e⟩:=S.ef h1;show ab (hpT h0 tr (j+1)) n=ab (hpT h0 tr j) n;have h3:n<(hpT h0 tr j).length:=h3;rw [e,mX,if_pos ⟨h2,by omega⟩]
 ·obtain ⟨r,r1,r2,r3⟩:=trh i (by have:j<l.length:=hj;omega)
  refine (vl tr _ _).2 ⟨i,pr.2 ⟨h1,h2,h3,?_⟩,r,r1,?_,?_⟩
  ·have h4: ¬(((cr l).getD j 0).testBit i=true):=h4
   simpa using h4
  ·rw [r2,r3];exact h5
  ·rw [r2];rfl
 ·obtain ⟨i,i1,r,r1,r2,r3⟩:=(vl tr _ _).1 h1
  have hij:=(pr.1 i1).2.1;have hj:j<l.length:=hj;obtain ⟨r',q1,q2,q3⟩:=trh i (by omega);rw [r1] at q1;cases q1;show n<(hpT h0 tr j).length
  have:=mono i (by omega)
  have:=le j (i+1) hij (by omega)
  rw [q2,q3] at r2;rw [r3,q2];omega
 ·have c1:mkB C (l.getD j default).op=true:=c.1
  have c2:eF C (l.getD j default).op=true:=c.2;rw [acA c1] at c2;cases c2
theorem xD {n i j:Nat}:(i,j)∈aaU n↔i<j∧j<n:=by
 unfold aaU;simp only [CZ,Dr,Cg]
 constructor
 ·rintro ⟨j',h1,i',h2,h3⟩
  cases h3;exact ⟨h2,h1⟩
 ·rintro ⟨h1,h2⟩;exact ⟨j,h2,i,h1,rfl⟩
structure ado (C:Cx) (ops:Array Oper):Prop where
 dir: ∀(j:Nat) (o:Oper),ops[j]? =some o→ ∀e,e∈o.after→Region.binds .any e=true→e.on<j
 pair: ∀i j oi oj,ops[i]? =some oi→ops[j]? =some oj→i<j→((cr ops.toList).getD j 0).testBit i=true∨(oi.apart ops oj=true∧oj.apart ops oi=true∧ ¬(eF C oi.op=true∧eF C oj.op=true))
theorem qR {ops:Array Oper} {i:Nat} {o:Oper} (h:ops[i]? =some o):ops.toList.getD i default=o:=by
 rw [Bf,Bk,h];rfl
theorem aau {ops:Array Oper} (h:fy C ops=true):ado C ops:=by
 unfold fy at h;simp only [Ba,BG] at h;obtain ⟨⟨_,h2⟩,h3⟩:=h;refine ⟨fun j o ho e he hb=>?_,fun i j oi oj hi hj hij=>?_⟩
 ·have hj:j<ops.toList.length:=by rw [Bt];exact (Bw.1 ho).1
  have:=h2 j (Dr.2 hj) e (by rw [qR ho];exact BP.2 he)
  simpa [hb,Ce] using this
 ·have hj':j<ops.toList.length:=by rw [Bt];exact (Bw.1 hj).1
  have:=h3 (i,j) (xD.2 ⟨hij,hj'⟩)
  simp only [qR hi,qR hj,Bool.or_eq_true,Ba,Bool.not_eq_true'] at this;rcases this with h|⟨⟨h1,h2⟩,h3⟩
  ·exact .inl h
  ·refine .inr ⟨h1,h2,fun c=>?_⟩
   rw [c.1,c.2] at h3;cases h3
theorem sJ {ops:Array Oper} {i j:Nat} (hij:i<j) (hj:j<ops.toList.length) (hb: ¬(((cr ops.toList).getD j 0).testBit i=true)):
 (rdB C (ops.toList.getD i default).op=true→eF C (ops.toList.getD j default).op=true→(i,j)∈bX C ops)∧(eF C (ops.toList.getD i default).op=true→rdB C (ops.toList.getD j default).op=true→(j,i)∈bX C ops):=by
 have m:=xD.2 ⟨hij,hj⟩;have hb:((cr ops.toList).getD j 0).testBit i=false:=by simpa using hb
 refine ⟨fun h1 h2=>?_,fun h1 h2=>?_⟩
 ·unfold bX
  refine CZ.2 ⟨(i,j),m,?_⟩;simp only [hb,h1,h2,Bool.and_self,if_true]
  simp
 ·unfold bX
  refine CZ.2 ⟨(i,j),m,?_⟩
  have:rdB C (ops.toList.getD i default).op=false:=by unfold rdB;rw [h1,Bool.not_true,Bool.and_false]
  simp only [hb,this,h1,h2,Bool.and_self,Bool.false_and,if_true]
  simp
theorem aas {α:Type} {f:α→Bool}: ∀{l:List α},gh f l=true→ ∀a,a∈l→f a=true
 |[],_,a,h=>by cases h
 |b::l,e,a,h=>by
  have e:and (f b) (gh f l)=true:=e;rw [Ba] at e;rcases Bv.1 h with rfl|h
  ·exact e.1
  ·exact aas e.2 a h
theorem xt {T:Tms} {ops:Array Oper} {tr:List Tr} {h0:AH} {j e:Nat} {o:Oper} (ho:ops[j]? =some o) (he:e<ops.toList.length) (hl:tr.length=ops.toList.length) (st: ∀j,j<ops.toList.length→(tr.getD j default).h=hpT h0 tr j∧(tr.getD j default).σ=sgT tr j)
 (p:nh C run T (bZ C ops.toList (cr ops.toList) 0 (bo C ops.toList [] ops.toList)) tr (j,e)=true):
 AV.lt (hpT h0 tr j).length (tr.getD j default).v=true∧ ∃h',(jV C ops.toList (((List.range j).map fun i=>(ops.toList.getD i default).dst).reverse) o).f C run (sgT tr j) T (aN (hpT h0 tr j).length (dt ((dE C ops.toList tr h0).hid j) (hpT h0 tr (if j<e then e+1 else e)))) kVH=some (.vh (tr.getD j default).v h'):=by
 have hj:j<ops.toList.length:=by rw [Bt];exact (Bw.1 ho).1
 have ho':ops.toList[j]? =some o:=by rw [Bk];exact ho
 have hds:=vX ops.toList j (C9 hj);unfold nh at p;simp only [bI,kI,ko,ho',CJ,BE,Bx] at p;rw [Bd (show j<tr.length by omega),Bd (show e<tr.length by omega)] at p;simp only [Ba] at p;obtain ⟨p1,p2⟩:=p;have gj:tr.getD j default=tr[j]:=by simp [Bf,Bd (show j<tr.length by omega)]
 have ge:tr.getD e default=tr[e]:=by simp [Bf,Bd (show e<tr.length by omega)]
 obtain ⟨s1,s2⟩:=st j hj;obtain ⟨s3,_⟩:=st e he;rw [gj] at s1 s2;rw [ge] at s3;rw [gj];rw [ah,s1] at p1 p2;refine ⟨p1,?_⟩;unfold isV at p2
 split at p2
 ·rename_i x hx
  have hx:=vg hx;have hE:bq (Nat.blt j e) (tr[e]).h' (tr[e]).h=hpT h0 tr (if j<e then e+1 else e):=by
   by_cases hje:j<e
   ·rw [if_pos hje,show Nat.blt j e=true from by simpa [Ce] using hje,aA]
    show _=(tr.getD e default).h';rw [ge]
   ·rw [if_neg hje,show Nat.blt j e=false from by rw [BD];intro c;exact hje (by simpa [Ce] using c),aE,s3]
  rw [hE,s2,hds] at hx
  have:=afE _ _ p2
  refine ⟨x.2,?_⟩;rw [this];exact hx
 ·cases p2
end
section
variable {P:Program} {C:Cx} {run:Run}
def Li (listed:Array Bool):Nat→Prop:=fun j=>listed.getD j false=true
def vvT (tr:List Tr):Nat→AV:=fun i=>(tr.getD i default).v
def aaI (l:List Oper):Nat→Option Nat:=fun i=>(l.getD i default).dst
theorem alF {tr:List Tr} {j:Nat} (hj:j≤tr.length):sgT tr j=((List.range j).map (vvT tr)).reverse:=by
 unfold sgT
 congr 1
 apply Cz;intro i;simp only [Bn,BZ]
 by_cases hi:i<j
 ·rw [if_pos hi,Cy hi,Bd (by omega)]
  simp [vvT,Bf,Bd (show i<tr.length by omega)]
 ·rw [if_neg hi,BC (by simpa using hi)]
  rfl
theorem count_set: ∀(l:List Bool) (i:Nat),l[i]? =some false→(l.set i true).count false+1=l.count false
 |[],i,h=>by simp at h
 |b::l,0,h=>by
  simp at h;subst h
  simp
 |b::l,i+1,h=>by
  have:=count_set l i (by simpa using h)
  rw [C3,List.count_cons,List.count_cons];omega
theorem unl {listed:Array Bool} {i N:Nat} (hs:listed.size=N) (hi:i<N) (h: ¬Li listed i):listed.toList[i]? =some false:=by
 unfold Li at h;rw [Bz] at h;rw [Bk];rw [BU (by omega)] at h ⊢
 simpa using h
theorem apl {listed:Array Bool} {i N:Nat} (hs:listed.size=N) (hi:i<N) (q:Nat):Li (listed.setIfInBounds i true) q↔(Li listed q∨q=i):=by
 unfold Li
 by_cases hq:i=q
 ·subst hq
  simp [Bz,Cp,show i<listed.size by omega]
 ·rw [getD_set_ne false hq]
  simp [Ne.symm hq]
theorem kD {ops:Array Oper} {listed:Array Bool} {i:Nat} (hs:listed.size=ops.toList.length) (h:i∈Region.ready .any ops listed):i<ops.toList.length∧ ¬Li listed i∧ ∃o,ops[i]? =some o∧ ∀e∈o.after,Region.binds .any e=true→Li listed e.on:=by
 obtain ⟨h1,o,h2,h3⟩:=mem_ready.1 h;have hi:i<ops.toList.length:=by rw [Bt];exact (Bw.1 h2).1
 refine ⟨hi,fun c=>?_,o,h2,h3⟩;unfold Li at c;rw [Bz,BU (by omega)] at h1 c
 simp at h1 c
 rw [h1] at c;cases c
theorem xp {ops:Array Oper} {listed:Array Bool} (hs:listed.size=ops.toList.length) (K:ado C ops) (h:Region.ready .any ops listed=[]): ∀j,j<ops.toList.length→Li listed j:=by
 intro j
 induction j using Nat.strongRecOn with
 |_ j ih=>
  intro hj;refine Classical.byContradiction fun c=>?_
  have hj':j<ops.size:=by rwa [Bt] at hj
  have ho:ops[j]? =some ops[j]:=BU hj'
  have:j∈Region.ready .any ops listed:=by
   refine mem_ready.2 ⟨?_,ops[j],ho,fun e he hb=>?_⟩
   ·have:=unl hs hj c
    rw [Bk] at this;rw [Bz,this];rfl
   ·have hlt:=K.dir j _ ho e he hb
    exact ih e.on hlt (by omega)
  rw [h] at this;cases this
set_option maxHeartbeats 1600000 in
theorem avz (X:c7 P C) (H:dB P C run) {ops:Array Oper} {n:Nat} {ps:List Nat} {T:Tms} {tr:List Tr} {h0:AH} (K:ado C ops) (hb: ∀o∈ops.toList,opB n o=true) (hl:tr.length=ops.toList.length)
 (F: ∀j,j<ops.toList.length→Fact C run T h0 (bZ C ops.toList (cr ops.toList) 0 (bo C ops.toList [] ops.toList)) tr j)
 (PL: ∀p,p∈bX C ops→nh C run T (bZ C ops.toList (cr ops.toList) 0 (bo C ops.toList [] ops.toList)) tr p=true)
 {ok0:Nat→Prop} {w0:World} {ρi:Rho} (I0:Inv C ok0 w0 ρi h0) (inn: ∀i,tin T i=true→i∈ps) (low: ∀i∈ps,i<n) {ds0:List Deferred} {Q:Exit→Act→World→Prop}
 (hQ: ∀a' w' ok' ρ',Ext ok0 w0 ρi h0 ok' w' ρ' (hpT h0 tr ops.toList.length)→Inv C ok' w' ρ' (hpT h0 tr ops.toList.length)→TOk ok' w' ρ' ps n (cx (sgT tr ops.toList.length) T (flL ps ops.toList)) a'.tmps→a'.defers=ds0→Q .normal a' w'):
 ∀(fuel:Nat) (listed:Array Bool) (a:Act) (w:World) (ok:Nat→Prop) (ρ:Rho) (k:Nat),listed.size=ops.toList.length→listed.toList.count false≤fuel→DSt (dE C ops.toList tr h0) C ok0 w0 ρi (Li listed) k ok w ρ→wC (dE C ops.toList tr h0) (vvT tr) (aaI ops.toList) T (Li listed) ok w ρ a.tmps→n≤a.tmps.size→a.defers=ds0→wpAny P .any ops Q fuel listed a w:=by
 have O:=aun hl F;have ST: ∀{j:Nat} {o:Oper},ops[j]? =some o→Step C run T ops.toList tr h0 j (jV C ops.toList (((List.range j).map fun i=>(ops.toList.getD i default).dst).reverse) o).f:=by
  intro j o ho;have hj:j<ops.toList.length:=by rw [Bt];exact (Bw.1 ho).1
  exact afn (by rw [Bk];exact ho) (F j hj)
 -- the end
 have fin: ∀(listed:Array Bool) (a:Act) (w:World) (ok:Nat→Prop) (ρ:Rho) (k:Nat),(∀j,j<ops.toList.length→Li listed j)→DSt (dE C ops.toList tr h0) C ok0 w0 ρi (Li listed) k ok w ρ→wC (dE C ops.toList tr h0) (vvT tr) (aaI ops.toList) T (Li listed) ok w ρ a.tmps→n≤a.tmps.size→a.defers=ds0→Q .normal a w:=by
  intro listed a w ok ρ k all S M hs hd;have ne: ∀e,k≤e→e<ops.toList.length→(dE C ops.toList tr h0).ef e=true→False:=by
   intro e h1 h2 h3
   have:=(S.kl e h2 h3).1 (all e h2)
   omega
  have G:(dE C ops.toList tr h0).View (Li listed) k (hpT h0 tr ops.toList.length):=by
   intro m b e;have hm:=cJ (show ab (hpT h0 tr ops.toList.length) m≠none by rw [e];simp);obtain ⟨t,t1,t2⟩:=DE.yQ (D:=dE C ops.toList tr h0) ops.toList.length hm;have kN:k≤ops.toList.length:=S.kN;refine ⟨t,t1,t2,?_,?_,O.le ops.toList.length (by omega) (A9 _)⟩
   ·rcases Nat.eq_zero_or_pos t with h|h
    ·exact .inl h
    ·exact .inr (all _ (by omega))
   ·rw [←e]
    exact (O.same (Bm t2.1 (O.le _ (by omega) (by show max k t≤ops.toList.length;omega))) ops.toList.length (by omega) (A9 _) (fun e a b c=>(ne e (by omega) b c).elim)).symm
  have I:=S.inv G;have hρ:rr ρ (hpT h0 tr ops.toList.length).length=ρ:=by
   funext m
   cases hm:ρ m with
   |none=>unfold rr;split<;>simp [hm]
   |some r=>
    obtain ⟨_,t,t1,t2,t3⟩:=S.dom m r hm;exact cQ.2 ⟨Bm t3.1 (O.le ops.toList.length t1 (A9 _)),hm⟩
  rw [hρ] at I;have E:=S.ext;refine hQ a w ok ρ ⟨E.up,E.size,E.os,E.tape,E.output,O.le ops.toList.length (Cm _) (A9 _),E.keep,E.oknew,fun m hm e=>E.alive m hm ?_,E.rnew⟩ I ?_ hd
  ·intro c
   apply e;have kN:k≤ops.toList.length:=S.kN
   have:=O.same (Bm hm (O.le k (Cm _) S.kN)) ops.toList.length kN (A9 _) (fun e a b c=>(ne e a b c).elim)
   exact this.trans c
  ·unfold flL
   have hds:(ops.toList.map (·.dst))=(List.range ops.toList.length).map (aaI ops.toList):=by
    have:=vX ops.toList ops.toList.length (A9 _)
    rw [Cc] at this;exact this
   have up: ∀ℓ,Up ok w (rr ρ ℓ) ok w ρ:=fun ℓ=>atG fun _ _ _ h=>h
   refine RI.flush ⟨fun d i e=>?_,fun d e=>?_⟩ hs inn low
   ·rw [hds] at e
    obtain ⟨h1,h2,h3⟩:=vF _ d _ _ e
    have:oY (sgT tr ops.toList.length) i=vvT tr (ops.toList.length-1-i):=by
     rw [zl,alF (by omega),List.getElem?_reverse (by simpa using h1)];simp only [BI,List.length_range,Bn];rw [Cy (by omega)];rfl
    rw [this];refine V.up _ (up _) (M.wr d _ (all _ (by omega)) h2 (fun q q1 q2=>?_));have hq:q<ops.toList.length:=(S.cl q q1).1;rcases BN (ops.toList.length-1-i) q with h|h
    ·exact absurd q2 (h3 q h hq)
    ·exact h
   ·rw [hds] at e
    have hn:=j5 _ d _ e;exact V.up _ (up _) (M.un d (fun p hp=>hn p (S.cl p hp).1))
 intro fuel
 induction fuel with
 |zero=>
  intro listed a w ok ρ k hsz hc S M hs hd;have hr:Region.ready .any ops listed=[]:=by
   cases hr:Region.ready .any ops listed with
   |nil=>rfl
   |cons i r=>
    exfalso
    obtain ⟨h1,h2,_⟩:=kD hsz (show i∈Region.ready .any ops listed by rw [hr];simp)
    have:=count_set _ _ (unl hsz h1 h2)
    omega
  exact ⟨hr,fin listed a w ok ρ k (xp hsz K hr) S M hs hd⟩
 |succ fuel ih=>
  intro listed a w ok ρ k hsz hc S M hs hd;refine ⟨fun hr=>fin listed a w ok ρ k (xp hsz K hr) S M hs hd,fun i hi=>?_⟩;obtain ⟨hiN,nl,o,ho,hall⟩:=kD hsz hi;have hL:=apl hsz hiN;have hsz':(listed.setIfInBounds i true).size=ops.toList.length:=by simpa using hsz
  have hc':(listed.setIfInBounds i true).toList.count false≤fuel:=by
   have:=count_set _ _ (unl hsz hiN nl)
   rw [B0];omega
  have hoi:ops.toList.getD i default=o:=qR ho;have bj: ∀q,(dE C ops.toList tr h0).B i q→Li listed q:=by
   intro q hq;have hq:((cr ops.toList).getD i 0).testBit q=true:=hq;rw [apN (show ops.toList[i]? =some o by rw [Bk];exact ho)] at hq;obtain ⟨e,e1,e2,e3⟩:=aiS hq;have e1:=BP.1 e1;have hlt:=K.dir i o ho e e1 e2;have hli:=hall e e1 e2;rcases e3 with rfl|e3
   ·exact hli
   ·refine (S.cl e.on hli).2 q ?_
    show ((cr ops.toList).getD e.on 0).testBit q=true;rw [←e3,Bf,Bf,BZ,if_pos hlt]
  have opq: ∀q,q<ops.toList.length→ ∃oq,ops[q]? =some oq∧ops.toList.getD q default=oq:=by
   intro q hq;have hq':q<ops.size:=by rwa [Bt] at hq
   exact ⟨ops[q],BU hq',qR (BU hq')⟩
  -- later ones that are listed do not meet it
  have later: ∀q,i<q→Li listed q→ ∃oq,ops[q]? =some oq∧ops.toList.getD q default=oq∧o.apart ops oq=true:=by
   intro q hq hl;obtain ⟨oq,q1,q2⟩:=opq q (S.cl q hl).1;rcases K.pair i q o oq ho q1 hq with h|⟨h,_,_⟩
   ·exact absurd ((S.cl q hl).2 i h) nl
   ·exact ⟨oq,q1,q2,h⟩
  have look: ∀d,d∈o.looksAt ops→ ∀ℓ,(hpT h0 tr i).length≤ℓ→V ok w (ev C (sgT tr i) T (od (((List.range i).map (aaI ops.toList)).reverse) (.tmp d))) (rr ρ ℓ) (a.tmps.getD d undef):=by
   intro d hd ℓ hℓ;refine M.look O hiN nl (fun q hq=>(S.cl q hq).1) (fun q h1 h2=>?_) (fun q h1 h2 h3=>?_) hℓ (alF (by omega))
   ·obtain ⟨oq,q1,q2⟩:=opq q (by omega)
    rcases K.pair q i oq o q1 ho h1 with h|⟨h,_,_⟩
    ·exact bj q h
    ·have h2:(ops.toList.getD q default).dst=some d:=h2
     rw [q2] at h2;exact absurd hd ((Oper.apart_spec h).1 d h2)
   ·obtain ⟨oq,q1,q2,q3⟩:=later q h1 h3
    have h2:(ops.toList.getD q default).dst=some d:=h2;rw [q2] at h2;exact (Oper.apart_spec q3).2.2 d h2 hd
  have hvs: ∀{g:AH},(hpT h0 tr i).length≤g.length→Inv C ok w (rr ρ g.length) g→ ∀x,(x∈o.op.operands∨ ∃d,x= .tmp d∧d∈o.looksAt ops)→V ok w (ev C (sgT tr i) T (od (((List.range i).map (aaI ops.toList)).reverse) x)) (rr ρ g.length) (a.eval x):=by
   intro g hg I x hx;refine acZ I x (fun d hd=>look d ?_ _ hg);rcases hx with hx|⟨d',h1,h2⟩
   ·subst hd
    exact Cr _ (List.mem_filterMap.2 ⟨.tmp d,by simpa using hx,rfl⟩)
   ·rw [h1] at hd;cases hd;exact h2
  have hput: ∀d,aaI ops.toList i=some d→d<a.tmps.size∧ ∀q,Li listed q→aaI ops.toList q=some d→q<i:=by
   intro d h1;have h1:(ops.toList.getD i default).dst=some d:=h1;rw [hoi] at h1;refine ⟨?_,fun q q1 q2=>?_⟩
   ·have:=hb o (Bg (by rw [Bk];exact ho))
    unfold opB at this;rw [h1] at this
    have:d<n:=by simpa [Ce] using this
    omega
   ·rcases De q i with h|h|h
    ·exact h
    ·exact absurd (h▸q1) nl
    ·obtain ⟨oq,q3,q4,q5⟩:=later q h q1
     have q2:(ops.toList.getD q default).dst=some d:=q2;rw [q4] at q2;exact absurd q2 ((Oper.apart_spec q5).2.1 d h1)
  have hdst:aaI ops.toList i=o.dst:=by show (ops.toList.getD i default).dst=_;rw [hoi]
  have next: ∀u w' ok' ρ' k',DSt (dE C ops.toList tr h0) C ok0 w0 ρi (Li (listed.setIfInBounds i true)) k' ok' w' ρ'→Up ok w ρ ok' w' ρ'→V ok' w' (vvT tr i) (rr ρ' (hpT h0 tr (i+1)).length) u→wpAny P .any ops Q fuel (listed.setIfInBounds i true) (a.put o.dst u) w':=by
   intro u w' ok' ρ' k' S' U hu;refine ih _ _ w' ok' ρ' k' hsz' hc' S' ?_ (by rw [(fe a o.dst u).1];exact hs) ((fe a o.dst u).2.trans hd);rw [←hdst];exact (M.up U).put hL hu hput
  have st:=ST ho
  cases hw:(dE C ops.toList tr h0).nw i with
  |true=>
   obtain ⟨h',e,l1,l2,eh⟩:=st.new hw;have G:(dE C ops.toList tr h0).View (Li listed) k (aU (hpT h0 tr i).length none):=by
    intro m b e;rw [uL] at e;cases e
   have gl:(aU (hpT h0 tr i).length (none:Option Blk)).length=(hpT h0 tr i).length:=by rw [gL,CA]
   have I:=S.inv G;obtain ⟨v,h'',k1,k2⟩:=tU X H I ho (hvs (by rw [gl];exact A9 _) I) e
   cases k1
   refine k2 _ Q (fun u w' ok' ρ' E I' Vu=>?_);have nf:(dE C ops.toList tr h0).ef i=false:=by
    cases hf:(dE C ops.toList tr h0).ef i with
    |false=>rfl
    |true=>exact absurd ⟨hw,hf⟩ (O.one i)
   have hl1:h'.length=(hpT h0 tr (i+1)).length:=by rw [eh,A7,Bi];omega
   obtain ⟨S',U,UN⟩:=S.lift (L':=Li (listed.setIfInBounds i true)) (k':=k) O I0 hiN nl gl G E I' hl1 (A9 _) S.kN hL
    (fun e he hf=>by
     rw [hL,←S.kl e he hf]
     constructor
     ·rintro (h|h)
      ·exact h
      ·subst h;rw [nf] at hf;cases hf
     ·exact .inl) S.ke bj
    (fun m b m1 m2 m3=>by
     have hN1:i+1≤ops.toList.length:=hiN;have kN:k≤ops.toList.length:=S.kN
     have:ab (hpT h0 tr (max k (i+1))) m=ab (hpT h0 tr (i+1)) m:=O.same m3 (max k (i+1)) (by omega) (by show max k (i+1)≤ops.toList.length;omega) (fun e e1 e2 e3=>by
      have eN:e<ops.toList.length:=by omega
      have le:Li listed e:=(S.kl e eN e3).2 (by omega);have enw:(dE C ops.toList tr h0).nw e=false:=by
       cases hx:(dE C ops.toList tr h0).nw e with
       |false=>rfl
       |true=>exact absurd ⟨hx,e3⟩ (O.one e)
      have m3:m<(hpT h0 tr (i+1)).length:=m3;have m1:(hpT h0 tr i).length≤m:=m1
      have:=O.hids e i eN enw (by omega) hw (fun hb=>nl ((S.cl e le).2 i hb)) (by show (hpT h0 tr (i+1)).length≠(hpT h0 tr i).length;omega)
      have q:(hpT h0 tr i).length=m:=by omega
      rw [←q];exact this)
     have m2:ab (hpT h0 tr (max k (i+1))) m=some b:=m2;rw [this,eh,←aV,cN,if_neg (Nat.not_lt.2 (show (hpT h0 tr i).length≤m from m1)),bE,C4] at m2;rw [bE]
     rwa [show (hpT h0 tr i).length+(m-(hpT h0 tr i).length)=m from Nat.add_sub_cancel' m1] at m2)
    (fun m t b _ _ _ hg=>absurd (uL _ _) hg) (fun m t b _ _ _ _ h=>h) (fun _ _ h=>h)
   exact next u w' ok' _ k S' U (V.up _ UN Vu)
  |false=>
   -- earlier effects
   have early:(dE C ops.toList tr h0).ef i=true→ ∀e,e<i→(dE C ops.toList tr h0).ef e=true→Li listed e:=by
    intro hf e he hfe;obtain ⟨oe,e1,e2⟩:=opq e (by omega);rcases K.pair e i oe o e1 ho he with h|⟨_,_,h⟩
    ·exact bj e h
    ·exfalso
     apply h;have hf:eF C (ops.toList.getD i default).op=true:=hf;have hfe:eF C (ops.toList.getD e default).op=true:=hfe;rw [hoi] at hf;rw [e2] at hfe;exact ⟨hfe,hf⟩
   cases hf:(dE C ops.toList tr h0).ef i with
   |true=>
    obtain ⟨h',e,l1,eh⟩:=st.ef hf;have ki:k≤i:=by
     rcases BN i k with h|h
     ·exact absurd ((S.kl i hiN hf).2 h) nl
     ·exact h
    have none': ∀e,k≤e→e<i→(dE C ops.toList tr h0).ef e=false:=by
     intro e h1 h2
     cases hx:(dE C ops.toList tr h0).ef e with
     |false=>rfl
     |true=>
      have eN:e<ops.toList.length:=by omega
      have:=(S.kl e eN hx).1 (early hf e h2 hx)
      omega
    have gl:(dt ((dE C ops.toList tr h0).hid i) (hpT h0 tr i)).length=(hpT h0 tr i).length:=nJ _ _;have G:(dE C ops.toList tr h0).View (Li listed) k (dt ((dE C ops.toList tr h0).hid i) (hpT h0 tr i)):=
     S.view O hiN hw bj ki (C9 hiN) none' (fun m b hm=>by
      rw [fH] at hm
      split at hm
      ·cases hm
      ·next c=>exact ⟨cJ (show ab (hpT h0 tr i) m≠none by rw [hm];simp),c,hm⟩) (by rw [gl];exact A9 _)
    have I:=S.inv G;obtain ⟨v,h'',k1,k2⟩:=tU X H I ho (hvs (by rw [gl];exact A9 _) I) e
    cases k1
    refine k2 _ Q (fun u w' ok' ρ' E I' Vu=>?_);have hl1:h'.length=(hpT h0 tr (i+1)).length:=by rw [eh,lU]
    have hN1:i+1≤ops.toList.length:=hiN;have at1: ∀m,ab (hpT h0 tr (i+1)) m=if m∈(dE C ops.toList tr h0).hid i∧m<h'.length then ab (hpT h0 tr i) m else ab h' m:=by
     intro m;rw [eh,mX]
    have toK: ∀m t,m<(hpT h0 tr i).length→t≤i→m<(hpT h0 tr t).length→ab (hpT h0 tr i) m=ab (hpT h0 tr (max k t)) m:=by
     intro m t h1 h2 h3;exact O.same (Bm h3 (O.le _ (by omega) (by show max k t≤ops.toList.length;omega))) i (by omega) (C9 hiN) (fun e a b c=>by rw [none' e (by omega) b] at c;cases c)
    obtain ⟨S',U,UN⟩:=S.lift (L':=Li (listed.setIfInBounds i true)) (k':=i+1) O I0 hiN nl gl G E I' hl1 (by omega) hN1 hL
     (fun e he hfe=>by
      rw [hL]
      constructor
      ·rintro (h|h)
       ·have:=(S.kl e he hfe).1 h;omega
       ·omega
      ·intro h
       rcases BN e i with h'|h'
       ·exact .inl (early hf e h' hfe)
       ·exact .inr (by omega)) (.inr (by simpa using hf)) bj
     (fun m b m1 m2 m3=>by
      have m2:ab (hpT h0 tr (max (i+1) (i+1))) m=some b:=m2;rw [Nat.max_self,at1,if_neg] at m2
      ·exact m2
      ·rintro ⟨c,_⟩
       have:=O.hidl i m hiN c
       omega)
     (fun m t b ow tN ld hg hm=>by
      have hmi:m<(hpT h0 tr i).length:=by have:=cJ hg;rwa [gl] at this
      have ti:=O.yE ow hmi;have hm:ab (hpT h0 tr (max (i+1) t)) m=some b:=hm;have mx:max (i+1) t=i+1:=by omega
      rw [mx] at hm ⊢;refine ⟨?_,A9 _⟩;rw [at1,if_neg] at hm
      ·exact hm
      ·rintro ⟨c,_⟩
       rw [fH,if_pos c] at hg;exact hg rfl)
     (fun m t b ow tN ld hg hm=>by
      have hm:ab (hpT h0 tr (max (i+1) t)) m=some b:=hm;show ab (hpT h0 tr (max k t)) m=some b
      by_cases hmi:m<(hpT h0 tr i).length
      ·have ti:=O.yE ow hmi
       rw [show max (i+1) t=i+1 by omega,at1] at hm
       split at hm
       ·rw [toK m t hmi ti ow.1] at hm;exact hm
       ·next c=>
        exfalso
        have:ab (dt ((dE C ops.toList tr h0).hid i) (hpT h0 tr i)) m≠none:=E.alive m (by rw [gl];exact hmi) (by rw [hm];simp)
        exact this hg
      ·have: ¬t≤i:=by
        intro c
        have:(hpT h0 tr t).length≤(hpT h0 tr i).length:=O.le i c (C9 hiN)
        have:m<(hpT h0 tr t).length:=ow.1
        omega
       rcases BN (i+1) t with h|h
       ·rw [show max (i+1) t=t by omega] at hm
        rw [show max k t=t by omega];exact hm
       ·have:t=i+1:=by omega
        subst this;rcases ld with c|c
        ·omega
        ·exact absurd c nl)
     (fun m m0 hm=>by
      have hmi:m<(hpT h0 tr i).length:=Bm m0 (O.le i (Cm _) (C9 hiN));have hm:ab (hpT h0 tr (i+1)) m≠none:=hm;show ab (hpT h0 tr k) m≠none;have e0:=toK m 0 hmi (Cm _) m0;rw [Nat.max_zero] at e0;rw [←e0];rw [at1] at hm
      split at hm
      ·exact hm
      ·have:=E.alive m (by rw [gl];exact hmi) hm
       rw [fH] at this
       split at this
       ·exact absurd rfl this
       ·exact this)
    exact next u w' ok' _ (i+1) S' U (V.up _ UN Vu)
   |false=>
    have hrd:rdB C o.op=true:=by have:=aol hw hf;rwa [hoi] at this
    obtain ⟨eh,h',e⟩:=st.rd hw hf;have S':=S.read (L':=Li (listed.setIfInBounds i true)) O hiN hw hf bj hL
    -- where the heap of the moment is that of boundary s
    have go: ∀(g:AH) (h':AH),(hpT h0 tr i).length≤g.length→(dE C ops.toList tr h0).View (Li listed) k g→(jV C ops.toList (((List.range i).map fun i=>(ops.toList.getD i default).dst).reverse) o).f C run (sgT tr i) T g kVH=some (.vh (tr.getD i default).v h')→
     (g.length=(hpT h0 tr i).length∨AV.lt (hpT h0 tr i).length (tr.getD i default).v=true)→wpOp P ops Q i (wpAny P .any ops Q fuel (listed.setIfInBounds i true)) a w:=by
     intro g h' hg G e hlt;have I:=S.inv G;obtain ⟨v,k1,k2⟩:=ary X I ho hrd (hvs hg I) e
     cases k1
     refine k2 _ Q (fun u Vu=>next u w ok ρ k S' (Up.refl _ _ _) ?_);rw [eh];rcases hlt with hlt|hlt
     ·rw [hlt] at Vu;exact Vu
     ·exact V.names _ (fun m r m1 m2=>cQ.2 ⟨m1,(cQ.1 m2).2⟩) hlt Vu
    have fitV: ∀s,k≤s→s≤ops.toList.length→(∀e,k≤e→e<s→(dE C ops.toList tr h0).ef e=false)→(dE C ops.toList tr h0).View (Li listed) k (aN (hpT h0 tr i).length (dt ((dE C ops.toList tr h0).hid i) (hpT h0 tr s))):=by
     intro s s1 s2 s3;refine S.view O hiN hw bj s1 s2 s3 (fun m b hm=>?_) ?_
     ·rw [uU] at hm
      split at hm
      ·next h1=>
       rw [fH] at hm
       split at hm
       ·cases hm
       ·next c=>exact ⟨h1,c,hm⟩
      ·cases hm
     ·rw [afL,nJ]
      show (hpT h0 tr s).length≤_;omega
    have fitL: ∀s,(hpT h0 tr i).length≤(aN (hpT h0 tr i).length (dt ((dE C ops.toList tr h0).hid i) (hpT h0 tr s))).length:=by
     intro s;rw [afL];omega
    have shs: ∀j,j<ops.toList.length→(tr.getD j default).h=hpT h0 tr j∧(tr.getD j default).σ=sgT tr j:=by
     intro j hj;obtain ⟨oj,j1,_⟩:=opq j hj;exact (ST j1).sh
    have nb: ∀e,e<ops.toList.length→(dE C ops.toList tr h0).ef e=true→eF C (ops.toList.getD e default).op=true:=fun e _ h=>h
    rcases BN i k with hik|hik
    ·--behind an effect of the text to come
     have ke:=S.ke.resolve_left (by omega);have kN:k≤ops.toList.length:=S.kN;have eN:k-1<ops.toList.length:=by omega
     have hne:i≠k-1:=by intro c;rw [←c,hf] at ke;cases ke
     have hlt:i<k-1:=by omega
     have le:=(S.kl (k-1) eN ke).2 (by omega);have hnb: ¬(((cr ops.toList).getD (k-1) 0).testBit i=true):=fun c=>nl ((S.cl _ le).2 i c)
     have pl:=(sJ (C:=C) hlt eN hnb).1 (aol hw hf) ke;obtain ⟨p1,h2,p2⟩:=xt ho eN hl shs (PL _ pl);rw [if_pos hlt,show k-1+1=k by omega] at p2;exact go _ h2 (fitL k) (fitV k (A9 _) kN (fun e a b=>by omega)) p2 (.inr p1)
    ·by_cases hex: ∃e,k≤e∧e<i∧(dE C ops.toList tr h0).ef e=true
     ·--ahead of an effect of the text before
      have least: ∀e,k≤e→e<i→(dE C ops.toList tr h0).ef e=true→ ∃e',k≤e'∧e'<i∧(dE C ops.toList tr h0).ef e'=true∧ ∀q,k≤q→q<e'→(dE C ops.toList tr h0).ef q=false:=by
       intro e
       induction e using Nat.strongRecOn with
       |_ e ih=>
        intro h1 h2 h3
        by_cases c: ∃q,k≤q∧q<e∧(dE C ops.toList tr h0).ef q=true
        ·obtain ⟨q,q1,q2,q3⟩:=c
         exact ih q q2 q1 (by omega) q3
        ·refine ⟨e,h1,h2,h3,fun q q1 q2=>?_⟩
         cases hx:(dE C ops.toList tr h0).ef q with
         |false=>rfl
         |true=>exact absurd ⟨q,q1,q2,hx⟩ c
      obtain ⟨e0,a1,a2,a3⟩:=hex;obtain ⟨e1,b1,b2,b3,b4⟩:=least e0 a1 a2 a3;have eN:e1<ops.toList.length:=by omega
      have hnb: ¬(((cr ops.toList).getD i 0).testBit e1=true):=fun c=>by
       have:=(S.kl e1 eN b3).1 (bj e1 c)
       omega
      have pl:=(sJ (C:=C) b2 hiN hnb).2 b3 (aol hw hf);obtain ⟨p1,h2,p2⟩:=xt ho eN hl shs (PL _ pl);rw [if_neg (by omega)] at p2;exact go _ h2 (fitL e1) (fitV e1 b1 (C9 eN) b4) p2 (.inr p1)
     ·have none': ∀e,k≤e→e<i→(dE C ops.toList tr h0).ef e=false:=by
       intro e h1 h2
       cases hx:(dE C ops.toList tr h0).ef e with
       |false=>rfl
       |true=>exact absurd ⟨e,h1,h2,hx⟩ hex
      have gl:(dt ((dE C ops.toList tr h0).hid i) (hpT h0 tr i)).length=(hpT h0 tr i).length:=nJ _ _;have G:(dE C ops.toList tr h0).View (Li listed) k (dt ((dE C ops.toList tr h0).hid i) (hpT h0 tr i)):=
       S.view O hiN hw bj hik (C9 hiN) none' (fun m b hm=>by
        rw [fH] at hm
        split at hm
        ·cases hm
        ·next c=>exact ⟨cJ (show ab (hpT h0 tr i) m≠none by rw [hm];simp),c,hm⟩) (by rw [gl];exact A9 _)
      exact go _ h' (by rw [gl];exact A9 _) G e (.inl gl)
end
section
variable {P:Program} {C:Cx} {ok:Nat→Prop} {w:World} {ρ:Rho} {h:AH} {rs:Rs} {run:Run}
theorem qo (X:c7 P C) (H:dB P C run) {ops:Array Oper} {n:Nat} {ps:List Nat} (hok:fy C ops=true) (hb: ∀o∈ops.toList,opB n o=true) {T:Tms} {a:Act} (I:Inv C ok w ρ h) (TT:TOk ok w ρ ps n T a.tmps) {T':Tms} {h':AH}
 (e:jM C run (flL ps ops.toList) T (bZ C ops.toList (cr ops.toList) 0 (bo C ops.toList [] ops.toList)) (bX C ops) h=some (.st T' h'))
 (Q:Exit→Act→World→Prop) (hQ: ∀a' w' ok' ρ',Ext ok w ρ h ok' w' ρ' h'→Inv C ok' w' ρ' h'→TOk ok' w' ρ' ps n T' a'.tmps→a'.defers=a.defers→Q .normal a' w'):
 wpAny P .any ops Q ops.size (Array.replicate ops.size false) a {w with drawn:=w.drawn+1}:=by
 obtain ⟨x,e1,e2⟩:=ai (show au (eZ C run T (bZ C ops.toList (cr ops.toList) 0 (bo C ops.toList [] ops.toList)) [] [] h) _=some (Rs.st T' h') from e);obtain ⟨e3,e4⟩:=aB (show bq _ _ none=some (Rs.st T' h') from e2);obtain ⟨t1,t2,t3,t4⟩:=aoH e1;have len:(bZ C ops.toList (cr ops.toList) 0 (bo C ops.toList [] ops.toList)).length=ops.toList.length:=by rw [yd,wV]
 rw [len] at t1 t2 t3 t4;rw [t2,t3] at e4
 cases e4
 have K:=aau hok;obtain ⟨E0,I0⟩:=Ext.drew I (w.drawn+1);have O:=aun (run:=run) t1 t4;have low: ∀t,Ld (Li (Array.replicate ops.size false)) t→t=0:=by
  rintro t (h|h)
  ·exact h
  ·exfalso
   unfold Li at h;rw [Bz,Array.getElem?_replicate] at h
   split at h<;>simp at h
 have nl: ∀t,¬Li (Array.replicate ops.size false) t:=by
  intro t h
  have:=low (t+1) (.inr h)
  omega
 have rρ: ∀ℓ,h.length≤ℓ→rr ρ ℓ=ρ:=by
  intro ℓ hl
  funext m
  cases hm:ρ m with
  |none=>unfold rr;split<;>simp [hm]
  |some r=>exact cQ.2 ⟨Bm (I.dom m r hm).1 hl,hm⟩
 refine avz X H K hb t1 t4 (fun p hp=>aas e3 p hp) I TT.inn TT.low (ds0:=a.defers) hQ ops.size _ a _ ok ρ 0 (by simp) ?_ ⟨Cm _,fun e _ _=>?_,.inl rfl,fun j hj=>absurd hj (nl j),I0.okb,I0.gl,fun m r hm=>?_,fun m t b o1 o2 o3 o4=>?_,fun m q t s r o1 o2 o3 o4 o5 o6 o7 o8 o9 o10=>?_,E0⟩ ⟨fun d p hp=>absurd hp (nl p),fun d _=>?_⟩ TT.size rfl
 ·rw [Array.toList_replicate]
  simp
 ·constructor
  ·intro h;exact absurd h (nl e)
  ·intro h;exact absurd h (Cn _)
 ·exact ⟨(I0.dom m r hm).2,0,Cm _,.inl rfl,(I0.dom m r hm).1,fun s hs=>absurd hs (Cn _)⟩
 ·have:=low t o3
  subst this;have o4:ab h m=some b:=o4;obtain ⟨r,r1,r2,r3⟩:=I0.live m b o4;refine ⟨r,r1,r2,?_⟩;show iq ok _ (rr ρ h.length) r b;rw [rρ _ (A9 _)];exact r3
 ·have ht:=low t o5
  have hs:=low s o6;subst ht;subst hs;exact I0.inj m q r o7 o8 o9 o10
 ·show V ok _ (bc T d) (rr ρ h.length) _
  rw [rρ _ (A9 _)];exact E0.V (TT.get d)
theorem as4 (X:c7 P C) (H:dB P C run) {id:Nat} {ops:Array Oper} {n:Nat} {ps:List Nat} (hok:fy C ops=true) (hb: ∀o∈ops.toList,opB n o=true) {T:Tms} {a:Act} (I:Inv C ok w ρ h) (TT:TOk ok w ρ ps n T a.tmps) {T':Tms} {h':AH}
 (e:jM C run (flL ps ops.toList) T (bZ C ops.toList (cr ops.toList) 0 (bo C ops.toList [] ops.toList)) (bX C ops) h=some (.st T' h'))
 (Q:Exit→Act→World→Prop) (hQ: ∀a' w' ok' ρ',Ext ok w ρ h ok' w' ρ' h'→Inv C ok' w' ρ' h'→TOk ok' w' ρ' ps n T' a'.tmps→a'.defers=a.defers→Q .normal a' w'):
 (Code.region id ops true).wp P Q a w:=wp_region_any X.mixed (qo X H hok hb I TT e Q hQ)
end
section
variable {ok ok':Nat→Prop} {w:World} {ρ:Rho} {q r:Nat} {ks vs:List AV} {es:Array MapEntry} {ck:Nat}
structure Still (ok ok':Nat→Prop) (w:World) (ρ:Rho) (q r:Nat) (ks vs:List AV) (es:Array MapEntry) (ck:Nat):Prop where
 nam:ρ q=some r
 sub: ∀b,ok b→ok' b
 isok:ok' r
 cell:w.heap[r]? =some (.map es ck)
 keys:VL ok' w ks ρ0 (es.toList.map (·.key))
 vals:VL ok' w vs ρ0 (es.toList.map (·.val))
 stamps:wA es ck
theorem Still.up (S:Still ok ok' w ρ q r ks vs es ck):Up ok w ρ ok' w ρ:=⟨fun _ _=>rfl,S.sub,fun _ _ h=>h,fun _ _ h=>h⟩
mutual
theorem V.frz (S:Still ok ok' w ρ q r ks vs es ck): ∀(v:AV) {u:Value},V ok w v ρ u→V ok' w (v.frz q ks vs) ρ u
 | .mpo b,u,h=>by
   show V ok' w (bq (Nat.beq b q) (.mpp ks vs) (.mpo b)) ρ u
   cases hb:Nat.beq b q with
   |false=>exact V.up (.mpo b) S.up h
   |true=>
    have:=A8 hb
    subst this;simp only [V] at h;obtain ⟨r',h1,rfl⟩:=h;rw [S.nam] at h1
    cases h1
    rw [aA];simp only [V];exact ⟨r,es,ck,S.isok,rfl,S.cell,S.keys,S.vals,S.stamps⟩
 | .agg cs,u,h=>by
   show V ok' w (.agg (rI q ks vs cs)) ρ u;simp only [V] at h ⊢;obtain ⟨us,h1,h2⟩:=h;exact ⟨us,h1,VL.frz S cs h2⟩
 | .tup cs,u,h=>by
   show V ok' w (.tup (rI q ks vs cs)) ρ u;simp only [V] at h ⊢;obtain ⟨us,h1,h2⟩:=h;exact ⟨us,h1,VL.frz S cs h2⟩
 | .bot,u,h=>V.up .bot S.up h
 | .bool b,u,h=>V.up (.bool b) S.up h
 | .int m n,u,h=>V.up (.int m n) S.up h
 | .str l,u,h=>V.up (.str l) S.up h
 | .nil,u,h=>V.up .nil S.up h
 | .pto b o,u,h=>V.up (.pto b o) S.up h
 | .ptp cs o,u,h=>V.up (.ptp cs o) S.up h
 | .aa,u,h=>V.up .aa S.up h
 | .slo b o l c z e,u,h=>V.up (.slo b o l c z e) S.up h
 | .slp cs l,u,h=>V.up (.slp cs l) S.up h
 | .sle,u,h=>V.up .sle S.up h
 | .nilm,u,h=>V.up .nilm S.up h
 | .mpp a b,u,h=>V.up (.mpp a b) S.up h
 | .nilf,u,h=>V.up .nilf S.up h
 | .fn f a c,u,h=>by
   show V ok' w (.fn f (rI q ks vs a) (rI q ks vs c)) ρ u;simp only [V] at h ⊢;obtain ⟨a',c',h1,h2,h3⟩:=h;exact ⟨a',c',h1,VL.frz S a h2,VL.frz S c h3⟩
 | .nili,u,h=>V.up .nili S.up h
theorem VL.frz (S:Still ok ok' w ρ q r ks vs es ck): ∀(l:List AV) {us:List Value},VL ok w l ρ us→VL ok' w (rI q ks vs l) ρ us
 |[],us,h=>by simpa only [ql,VL] using h
 |v::l,us,h=>by
  rw [nQ];simp only [VL] at h ⊢;obtain ⟨u,t,h1,h2,h3⟩:=h;exact ⟨u,t,h1,V.frz S v h2,VL.frz S l h3⟩
end
theorem VAt.frz (S:Still ok ok' w ρ q r ks vs es ck): ∀(l:List AV) {b p:Nat},VAt ok w l ρ b p→VAt ok' w (rI q ks vs l) ρ b p
 |[],_,_,_=>by simp only [ql,VAt]
 |v::l,b,p,h=>by
  rw [nQ];simp only [VAt] at h ⊢;obtain ⟨⟨u,h1,h2⟩,h3⟩:=h;exact ⟨⟨u,h1,V.frz S v h2⟩,VAt.frz S l h3⟩
end
section
variable {C:Cx} {ok:Nat→Prop} {w:World} {ρ:Rho} {h:AH} {q:Nat} {ks vs:List AV}
theorem abi (n:Nat):ab (wH q ks vs h) n=if n=q∧q<h.length then none else frzO q ks vs (ab h n):=by
 unfold wH;rw [dC,dA,BI]
 split
 ·rfl
 ·rw [bE,bE,Bn]
  cases h[n]? <;>rfl
theorem abF:(wH q ks vs h).length=h.length:=by
 unfold wH;rw [cM,dA,BI]
theorem ahC (I:Inv C ok w ρ h) (hb:ab h q=some (.map ks vs)) (l1:ltL 0 ks=true) (l2:ltL 0 vs=true):
 ∃ok' r es ck,Still ok ok' w ρ q r ks vs es ck∧Ext ok w ρ h ok' w ρ (wH q ks vs h)∧Inv C ok' w ρ (wH q ks vs h):=by
 obtain ⟨r,h1,h2,es,ck,h3,h4,h5,h6⟩:=I.live q _ hb;have hq:q<h.length:=cJ (by rw [hb];simp);have nn: ∀n s,n<0→ρ n=some s→ρ0 n=some s:=fun n _ hn=>absurd hn (Cn n)
 have U:Up ok w ρ0 (fun b=>ok b∨b=r) w ρ0:=⟨fun _ _=>rfl,fun _ h=>.inl h,fun _ _ h=>h,fun _ _ h=>h⟩;have S:Still ok (fun b=>ok b∨b=r) w ρ q r ks vs es ck:=⟨h1,fun _ h=>.inl h,.inr rfl,h3,VL.up ks U (VL.names ks nn l1 h4),VL.up vs U (VL.names vs nn l2 h5),h6⟩;have alive: ∀n b,ab (wH q ks vs h) n=some b→n≠q∧ ∃b0,ab h n=some b0∧b=b0.frz q ks vs:=by
  intro n b e;rw [abi] at e
  split at e
  ·cases e
  ·next hn=>
   cases hh:ab h n with
   |none=>rw [hh] at e;cases e
   |some b0=>rw [hh] at e;cases e;exact ⟨fun c=>hn ⟨c,hq⟩,b0,rfl,rfl⟩
 have alive': ∀n,ab (wH q ks vs h) n≠none→n≠q∧ab h n≠none:=by
  intro n hn
  cases hh:ab (wH q ks vs h) n with
  |none=>exact absurd hh hn
  |some b=>
   obtain ⟨a,b0,c,_⟩:=alive n b hh;exact ⟨a,by rw [c];simp⟩
 refine ⟨fun b=>ok b∨b=r,r,es,ck,S,⟨S.up,A9 _,rfl,rfl,rfl,by rw [abF];exact A9 _,fun _ _ _=>rfl,fun b hbk=>?_,fun n _ hn=>(alive' n hn).2,fun _ _ h=>.inl h⟩,⟨fun b hbk=>?_,fun n s e=>?_,fun n b e=>?_,fun n m s hn hm e1 e2=>?_,I.aba S.up⟩⟩
 ·rcases hbk with hbk|rfl
  ·exact .inl hbk
  ·exact .inr (.inr ⟨q,by rw [hb];simp,h1⟩)
 ·rcases hbk with hbk|rfl
  ·exact I.okb b hbk
  ·exact (I.dom q b h1).2
 ·rw [abF];exact I.dom n s e
 ·obtain ⟨hne,b0,e0,rfl⟩:=alive n b e
  obtain ⟨s,s1,s2,s3⟩:=I.live n b0 e0;refine ⟨s,s1,?_,?_⟩
  ·rintro (c|c)
   ·exact s2 c
   ·subst c
    exact hne (I.inj n q s (by rw [e0];simp) (by rw [hb];simp) s1 h1)
  ·cases b0 with
   |cells cs yt=>
    obtain ⟨arr,et,fr,g1,g2,g3,g4⟩:=s3;exact ⟨arr,et,fr,g1,g2,VAt.frz S cs g3,g4⟩
   |map a b=>
    obtain ⟨es',ck',g1,g2,g3,g4⟩:=s3;exact ⟨es',ck',g1,VL.frz S a g2,VL.frz S b g3,g4⟩
   |rows z ll yt=>
    obtain ⟨g0,arr,et,fr,g1,g2,g3,g4⟩:=s3;exact ⟨uA (ql _ _ _) (nQ _ _ _) g0,arr,et,fr,g1,g2,by rw [pM (ql _ _ _) (nQ _ _ _)];exact VAt.frz S _ g3,g4⟩
 ·exact I.inj n m s (alive' n hn).2 (alive' m hm).2 e1 e2
end
theorem jB {a b:List AV} (h:AV.same (.agg a) (.agg b)=true):a=b:=by
 have:=fh a b h
 exact this
theorem xq: ∀{a b:List (List AV)},mN a b=true→a=b
 |[],[],_=>rfl
 |[],_::_,h=>by cases h
 |_::_,[],h=>by cases h
 |x::a,y::b,h=>by
  have h:and (AV.same (.agg x) (.agg y)) (mN a b)=true:=h;rw [Ba] at h;rw [jB h.1,xq h.2]
theorem ac9 {a b:Blk} (h:qc a b=true):a=b:=by
 cases a<;>cases b<;>try (cases h;done)
 ·have h:and (Nat.beq _ _) (AV.same (.agg _) (.agg _))=true:=h
  rw [Ba] at h;rw [jB h.2,A8 h.1]
 ·have h:and (AV.same (.agg _) (.agg _)) (AV.same (.agg _) (.agg _))=true:=h
  rw [Ba] at h;rw [jB h.1,jB h.2]
 ·have h:and (and (Nat.beq _ _) (Nat.beq _ _)) (mN _ _)=true:=h
  rw [Ba,Ba] at h;rw [A8 h.1.1,A8 h.1.2,xq h.2]
theorem mO: ∀{a b:AH},gm a b=true→a=b
 |[],[],_=>rfl
 |[],none::_,h=>by cases h
 |[],some _::_,h=>by cases h
 |none::_,[],h=>by cases h
 |some _::_,[],h=>by cases h
 |none::a,none::b,h=>by rw [mO (show gm a b=true from h)]
 |none::_,some _::_,h=>by cases h
 |some _::_,none::_,h=>by cases h
 |some x::a,some y::b,h=>by
  have h:and (qc x y) (gm a b)=true:=h;rw [Ba] at h;rw [ac9 h.1,mO h.2]
theorem mP {a b:AV} (h:AV.same a b=true):a=b:=by
 have:AV.same (.agg [a]) (.agg [b])=true:=by
  show and (AV.same a b) true=true;rw [h];rfl
 have:=jB this
 simpa using this
theorem qS: ∀{a b:Tm},ji a b=true→a=b
 | .nl,.nl,_=>rfl
 | .nl,.lf _ _,h=>by cases h
 | .nl,.nd _ _ _,h=>by cases h
 | .lf _ _,.nl,h=>by cases h
 | .lf _ _,.nd _ _ _,h=>by cases h
 | .nd _ _ _,.nl,h=>by cases h
 | .nd _ _ _,.lf _ _,h=>by cases h
 | .lf k v,.lf k' v',h=>by
   have h:and (Nat.beq k k') (AV.same v v')=true:=h;rw [Ba] at h;rw [A8 h.1,mP h.2]
 | .nd m a b,.nd m' a' b',h=>by
   have h:and (Nat.beq m m') (and (ji a a') (ji b b'))=true:=h;rw [Ba,Ba] at h;rw [A8 h.1,qS h.2.1,qS h.2.2]
theorem avD {s:St} {x:Option St} (h:isS s x=true):x=some s:=by
 cases x with
 |none=>cases h
 |some s'=>
  have h:and (ji s'.t s.t) (gm s'.h s.h)=true:=h;rw [Ba] at h;obtain ⟨t,hh⟩:=s;obtain ⟨t',hh'⟩:=s';simp only at h;rw [qS h.1,mO h.2]
def iM:List Bool→RT→Option St
 |[],.lf s=>some s
 |m::ms,.nd a b=>iM ms (if m=true then b else a)
 |_,_=>none
theorem oU {body:St→Option St}: ∀{a b:RT} {ms:List Bool} {s:St},lS body a b=true→iM ms a=some s→ ∃s',iM ms b=some s'∧body s=some s'
 | .lf s,.lf s',ms,x,h,e=>by
   cases ms with
   |nil=>cases e;exact ⟨s',rfl,avD h⟩
   |cons m ms=>cases e
 | .lf _,.nd _ _,_,_,h,_=>by cases h
 | .nd _ _,.lf _,_,_,h,_=>by cases h
 | .nd a b,.nd a' b',ms,x,h,e=>by
   have h:and (lS body a a') (lS body b b')=true:=h;rw [Ba] at h
   cases ms with
   |nil=>cases e
   |cons m ms=>
    have e:iM ms (if m=true then b else a)=some x:=e;show ∃s',iM ms (if m=true then b' else a')=some s'∧_
    cases m with
    |true=>exact oU h.2 e
    |false=>exact oU h.1 e
theorem zK {body:AV→AV→St→Option St}: ∀{ks vs:List AV} {t:RT} {ms:List Bool} {s:St} {i:Nat} {k v:AV},aa9 body ks vs t=true→iM ms t=some s→ms[i]? =some false→ks[i]? =some k→vs[i]? =some v→
 ∃s',iM (ms.set i true) t=some s'∧body k v s=some s'
 |[],vs,t,ms,s,i,k,v,_,_,_,hk,_=>by simp at hk
 |_::_,[],t,ms,s,i,k,v,_,_,_,_,hv=>by simp at hv
 |_::_,_::_,.lf _,ms,s,i,k,v,h,_,_,_,_=>by cases h
 |k0::ks,v0::vs,.nd a b,ms,s,i,k,v,h,e,hm,hk,hv=>by
  have h:and (lS (body k0 v0) a b) (and (aa9 body ks vs a) (aa9 body ks vs b))=true:=h;rw [Ba,Ba] at h
  cases ms with
  |nil=>cases e
  |cons m ms=>
   have e:iM ms (if m=true then b else a)=some s:=e
   cases i with
   |zero=>
    simp at hm hk hv
    subst hm;subst hk;subst hv
    obtain ⟨s',h1,h2⟩:=oU h.1 e;exact ⟨s',h1,h2⟩
   |succ i=>
    have hm:ms[i]? =some false:=by simpa using hm
    have hk:ks[i]? =some k:=by simpa using hk
    have hv:vs[i]? =some v:=by simpa using hv
    rw [C3];show ∃s',iM (ms.set i true) (if m=true then b else a)=some s'∧_
    cases m with
    |true=>exact zK h.2.2 e hm hk hv
    |false=>exact zK h.2.1 e hm hk hv
theorem aaD {body:AV→AV→St→Option St}: ∀{ks vs:List AV} {s:St} {t:RT},au7 body ks vs s=some t→iM (List.replicate ks.length false) t=some s
 |[],vs,s,t,e=>by cases e;rfl
 |k::ks,[],s,t,e=>by cases e
 |k::ks,v::vs,s,t,e=>by
  obtain ⟨a,e1,e⟩:=ai (show au (au7 body ks vs s) _=some t from e);obtain ⟨s',e2,e⟩:=ai e;obtain ⟨b,e3,e⟩:=ai e
  cases e
  rw [Br,CI];exact aaD (ks:=ks) e1
theorem xd: ∀{t:RT} {ms:List Bool} {s:St},iM ms t=some s→(∀m∈ms,m=true)→zh t=s
 | .lf s',ms,s,e,_=>by
   cases ms with
   |nil=>cases e;rfl
   |cons m ms=>cases e
 | .nd a b,ms,s,e,h=>by
   cases ms with
   |nil=>cases e
   |cons m ms=>
    have:=h m (by simp)
    subst this;exact xd (t:=b) (ms:=ms) e (fun x hx=>h x (by simp [hx]))
section
variable {P:Program} {Q:Exit→Act→World→Prop}
def pT (ops:Array Oper):Array Bool→List Nat→Prop
 |listed,[]=>Region.ready .any ops listed=[]
 |listed,x::r=>x∈Region.ready .any ops listed∧pT ops (listed.setIfInBounds x true) r
theorem vz {ops:Array Oper}: ∀{L:List Nat} {listed:Array Bool} {fuel:Nat} {a:Act} {w:World},pT ops listed L→L.length≤fuel→wpAny P .any ops Q fuel listed a w→wpOps P ops Q L a w
 |[],listed,fuel,a,w,hp,_,h=>by
  cases fuel with
  |zero=>exact h.2
  |succ fuel=>exact h.1 hp
 |x::L,listed,fuel,a,w,hp,hl,h=>by
  cases fuel with
  |zero=>simp at hl
  |succ fuel=>
   rw [wpOps_cons];exact wpOp_mono (fun a w h=>vz hp.2 (by simpa using hl) h) (h.2 x hp.1)
theorem arn {ops:Array Oper}: ∀(fuel t:Nat) (listed:Array Bool),listed.size=ops.toList.length→listed.toList.count false≤fuel→pT ops listed (Region.linearise.go .any ops fuel t listed [])∧(Region.linearise.go .any ops fuel t listed []).length≤fuel:=by
 intro fuel
 induction fuel with
 |zero=>
  intro t listed hs hc;refine ⟨?_,by simp [Region.linearise.go]⟩;show Region.ready .any ops listed=[]
  cases hr:Region.ready .any ops listed with
  |nil=>rfl
  |cons i r=>
   exfalso
   obtain ⟨h1,h2,_⟩:=kD hs (show i∈Region.ready .any ops listed by rw [hr];simp)
   have:=count_set _ _ (unl hs h1 h2)
   omega
 |succ fuel ih=>
  intro t listed hs hc;simp only [Region.linearise.go]
  change pT ops listed (match (Region.ready .any ops listed)[t%(Region.ready .any ops listed).length]? with
   |some i=>Region.linearise.go .any ops fuel (t/(Region.ready .any ops listed).length) (listed.setIfInBounds i true) [i]
   |none=>[].reverse)∧(match (Region.ready .any ops listed)[t%(Region.ready .any ops listed).length]? with
   |some i=>Region.linearise.go .any ops fuel (t/(Region.ready .any ops listed).length) (listed.setIfInBounds i true) [i]
   |none=>[].reverse).length≤fuel+1
  cases hi:(Region.ready .any ops listed)[t%(Region.ready .any ops listed).length]? with
  |none=>
   have hnil:Region.ready .any ops listed=[]:=by
    cases hr:Region.ready .any ops listed with
    |nil=>rfl
    |cons x xs=>
     rw [hr] at hi;have hlt:t%(x::xs).length<(x::xs).length:=Nat.mod_lt _ (by simp)
     simp at hi
     simp at hlt
     omega
   exact ⟨hnil,by simp⟩
  |some i=>
   have hm:=Bg hi;obtain ⟨h1,h2,_⟩:=kD hs hm;have hc':(listed.setIfInBounds i true).toList.count false≤fuel:=by
    have:=count_set _ _ (unl hs h1 h2)
    rw [B0];omega
   obtain ⟨g1,g2⟩:=ih (t/(Region.ready .any ops listed).length) (listed.setIfInBounds i true) (by simpa using hs) hc';simp only [];rw [linearise_go_acc,List.reverse_singleton,List.singleton_append];exact ⟨⟨hm,g1⟩,by simpa using g2⟩
theorem fF {ops:Array Oper} {listed:Array Bool} (hs:listed.size=ops.toList.length) {x:Nat}:x∈Region.ready .any ops listed↔ ∃o,ops.toList[x]? =some o∧ ¬Li listed x∧ ∀e∈o.after.toList,Region.binds .any e=true→Li listed e.on:=by
 unfold Region.ready Li;rw [List.mem_filter,Dr]
 constructor
 ·rintro ⟨h1,h2⟩
  rw [Ba] at h2;have hx:x<ops.toList.length:=by rw [Bt];exact h1
  refine ⟨ops.toList[x],Bd hx,?_,?_⟩
  ·intro c
   have:=h2.1
   rw [Bz] at c this;rw [BU (by omega)] at c this
   simp at c this
   rw [c] at this;cases this
  ·have h3:=h2.2
   rw [BU h1,CJ,Option.getD_some,Array.all_eq_true'] at h3;intro e he hb
   have:=h3 e (BP.1 (by simpa using he))
   simpa [hb] using this
 ·rintro ⟨o,ho,h2,h3⟩
  have hx:x<ops.toList.length:=(Bc.1 ho).1;have hx':x<ops.size:=by rwa [Bt] at hx
  refine ⟨hx',?_⟩;rw [Ba]
  constructor
  ·rw [Bz,BU (by omega)] at h2 ⊢
   simp at h2 ⊢
   exact h2
  ·rw [Bk] at ho
   rw [ho,CJ,Option.getD_some,Array.all_eq_true'];intro e he
   cases hb:Region.binds .any e with
   |false=>rfl
   |true=>simpa using h3 e (BP.2 he) hb
def uB (i j:Nat) (L:List Nat):Prop:=∀L1 L2,L=L1++j::L2→i∈L1
theorem uB.tail {i j x:Nat} {L:List Nat} (h:uB i j (x::L)):x=i∨uB i j L:=by
 by_cases e:x=i
 ·exact .inl e
 ·refine .inr fun L1 L2 c=>?_
  have:=h (x::L1) L2 (by rw [c];rfl)
  rcases Bv.1 this with rfl|h
  ·exact absurd rfl e
  ·exact h
theorem amf {i j:Nat} (hij:i≠j) (L:List Nat):uB i j L∨uB j i L:=by
 induction L with
 |nil=>exact .inl fun L1 L2 c=>by simp at c
 |cons x L ih=>
  by_cases e:x=i
  ·left
   intro L1 L2 c
   cases L1 with
   |nil=>simp at c;omega
   |cons y L1=>simp at c;simp [←c.1,e]
  ·by_cases e':x=j
   ·right
    intro L1 L2 c
    cases L1 with
    |nil=>simp at c;omega
    |cons y L1=>simp at c;simp [←c.1,e']
   ·rcases ih with h|h
    ·left
     intro L1 L2 c
     cases L1 with
     |nil=>simp at c;omega
     |cons y L1=>simp at c;exact Bh _ (h L1 L2 c.2)
    ·right
     intro L1 L2 c
     cases L1 with
     |nil=>simp at c;omega
     |cons y L1=>simp at c;exact Bh _ (h L1 L2 c.2)
theorem nV {listed:Array Bool} {N x:Nat} (hs:listed.size=N) (hx:x<N) (q:Nat):Li (listed.setIfInBounds x true) q↔(Li listed q∨q=x):=apl hs hx q
theorem lL {ops:Array Oper} {i j x:Nat} {o:Oper} (ho:ops.toList[x]? =some o):(dR ops i j).toList[x]? =some (if x=j then wF o i else o):=by
 unfold dR;rw [Ck];have hx:=(Bc.1 ho).1
 by_cases e:j=x
 ·subst e
  rw [if_pos rfl,if_pos hx,if_pos rfl,Bf,ho];rfl
 ·rw [if_neg e,if_neg (fun c=>e c.symm),ho]
theorem jt (ops:Array Oper) (i j:Nat):(dR ops i j).toList.length=ops.toList.length:=by unfold dR;simp
theorem auf {ops:Array Oper} {i j:Nat}: ∀{L:List Nat} {listed:Array Bool},listed.size=ops.toList.length→pT ops listed L→(Li listed i∨uB i j L)→pT (dR ops i j) listed L
 |[],listed,hs,hp,_=>by
  show Region.ready .any (dR ops i j) listed=[];have hp:Region.ready .any ops listed=[]:=hp
  cases hr:Region.ready .any (dR ops i j) listed with
  |nil=>rfl
  |cons x r=>
   exfalso
   have hm:x∈Region.ready .any (dR ops i j) listed:=by rw [hr];simp
   obtain ⟨o,ho,h2,h3⟩:=(fF (by rw [jt];exact hs)).1 hm
   have hx:x<ops.toList.length:=by rw [←jt ops i j];exact (Bc.1 ho).1
   have hg:=lL (i:=i) (j:=j) (Bd hx);rw [ho] at hg
   have:x∈Region.ready .any ops listed:=(fF hs).2 ⟨ops.toList[x],Bd hx,h2,fun e he hb=>by
    refine h3 e ?_ hb;rw [Cb hg]
    split
    ·unfold wF;simp;exact .inl (by simpa using he)
    ·exact he⟩
   rw [hp] at this;cases this
 |x::L,listed,hs,hp,hc=>by
  obtain ⟨h1,h2⟩:=hp;obtain ⟨o,ho,k2,k3⟩:=(fF hs).1 h1;have hx:=(Bc.1 ho).1;refine ⟨(fF (by rw [jt];exact hs)).2 ⟨_,lL ho,k2,fun e he hb=>?_⟩,auf (by simpa using hs) h2 ?_⟩
  ·split at he
   ·rename_i e0
    unfold wF at he
    simp at he
    rcases he with he|rfl
    ·exact k3 e (by simpa using he) hb
    ·rcases hc with hc|hc
     ·exact hc
     ·have:=hc [] L (by simp [e0])
      cases this
   ·exact k3 e he hb
  ·rcases hc with hc|hc
   ·exact .inl ((nV hs hx i).2 (.inl hc))
   ·rcases hc.tail with rfl|h
    ·exact .inl ((nV hs hx _).2 (.inr rfl))
    ·exact .inr h
theorem pd {ops ops':Array Oper} (f:Nat→Nat) (hg: ∀o∈ops.toList,o.guard=none) (h: ∀(x:Nat) o,ops.toList[x]? =some o→ ∃af,ops'.toList[f x]? =some {o with after:=af}):
 ∀{L:List Nat} {a:Act} {w:World},(∀x∈L,x<ops.toList.length)→wpOps P ops' Q (L.map f) a w→wpOps P ops Q L a w
 |[],a,w,_,hw=>hw
 |x::L,a,w,hl,hw=>by
  rw [BS,wpOps_cons] at hw;rw [wpOps_cons];have hx:=hl x (by simp);have ho:ops.toList[x]? =some ops.toList[x]:=Bd hx;obtain ⟨af,ho'⟩:=h x _ ho;have gx:=hg _ (Bg ho);unfold wpOp at hw ⊢;rw [Bk] at ho ho';rw [ho'] at hw;rw [ho]
  generalize ops.toList[x]=o at*
  have w1:Region.wanted o (yielded ops a.tmps)=true:=by unfold Region.wanted;rw [gx]
  have w2:Region.wanted {o with after:=af} (yielded ops' a.tmps)=true:=by unfold Region.wanted;simp only [gx]
  simp only [w1,w2,if_true] at hw ⊢;rcases hw with hw|hw
  ·left
   have hw:o.wp P a w (wpOps P ops' Q (L.map f)) Q:=hw;exact Oper.wp_mono (fun a w h'=>pd f hg h (fun y hy=>hl y (Bh _ hy)) h') hw
  ·exact .inr hw
theorem afY {ops:Array Oper}: ∀{L:List Nat} {listed:Array Bool},listed.size=ops.toList.length→pT ops listed L→ ∀x∈L,x<ops.toList.length
 |[],_,_,_,x,hx=>by cases hx
 |y::L,listed,hs,hp,x,hx=>by
  rcases Bv.1 hx with rfl|hx
  ·exact (kD hs hp.1).1
  ·exact afY (by simpa using hs) hp.2 x hx
theorem aeg (i n q:Nat):mvP i n q=if q=i then n-1 else if i<q then q-1 else q:=by
 unfold mvP
 by_cases h:q=i
 ·subst h;rw [Bs,aA,if_pos rfl];rfl
 ·have h1:Nat.beq q i=false:=by rw [BD];intro c;exact h (A8 c)
  rw [h1,aE,if_neg h]
  by_cases h2:i<q
  ·rw [if_pos h2,show Nat.blt i q=true from BH h2];rfl
  ·rw [if_neg h2,show Nat.blt i q=false by rw [BD];intro c;exact h2 (Be c)];rfl
theorem acs (i n p:Nat):mvB i n p=if p<i then p else if p+1<n then p+1 else i:=by
 unfold mvB
 by_cases h:p<i
 ·rw [if_pos h,show Nat.blt p i=true from BH h];rfl
 ·rw [if_neg h,show Nat.blt p i=false by rw [BD];intro c;exact h (Be c),aE]
  by_cases h2:p+1<n
  ·rw [if_pos h2,show Nat.blt (Nat.succ p) n=true from BH h2];rfl
  ·rw [if_neg h2,show Nat.blt (Nat.succ p) n=false by rw [BD];intro c;exact h2 (Be c)];rfl
theorem ak2 {i n q:Nat} (hi:i<n) (hq:q<n):mvP i n q<n:=by rw [aeg];split<;>(try split)<;>omega
theorem anY {i n p:Nat} (hi:i<n) (hp:p<n):mvB i n p<n:=by rw [acs];split<;>(try split)<;>omega
theorem ajQ {i n q:Nat} (hi:i<n) (hq:q<n):mvB i n (mvP i n q)=q:=by
 rw [acs,aeg]
 by_cases h:q=i
 ·subst h;rw [if_pos rfl,if_neg (by omega),if_neg (by omega)]
 ·rw [if_neg h]
  by_cases h2:i<q
  ·rw [if_pos h2,if_neg (by omega),if_pos (by omega)];omega
  ·rw [if_neg h2,if_pos (by omega)]
theorem am0 {i n p:Nat} (hi:i<n) (hp:p<n):mvP i n (mvB i n p)=p:=by
 rw [aeg,acs]
 by_cases h:p<i
 ·rw [if_pos h,if_neg (by omega),if_neg (by omega)]
 ·rw [if_neg h]
  by_cases h2:p+1<n
  ·rw [if_pos h2,if_neg (by omega),if_pos (by omega)];omega
  ·rw [if_neg h2,if_pos rfl];omega
theorem jr (ops:Array Oper) (i j:Nat):(dU ops i j).toList.length=ops.toList.length:=by unfold dU;simp
theorem lz {ops:Array Oper} {i j x:Nat} (hi:i<ops.toList.length) {o:Oper} (ho:ops.toList[x]? =some o):
 (dU ops i j).toList[mvP i ops.toList.length x]? =some (if x=i then wF (mvO i ops.toList.length o) (mvP i ops.toList.length j) else mvO i ops.toList.length o):=by
 have hx:=(Bc.1 ho).1;unfold dU;rw [Bn,Cy (ak2 hi hx),CJ];unfold mvA;rw [ajQ hi hx,Bf,ho,Option.getD_some]
 by_cases h:x=i
 ·subst h;rw [Bs,aA,if_pos rfl]
 ·have h1:Nat.beq x i=false:=by rw [BD];intro c;exact h (A8 c)
  rw [h1,aE,if_neg h]
theorem zN {i n:Nat} {o:Oper} {e:Edge}:e∈(mvO i n o).after.toList↔ ∃e0∈o.after.toList,e={e0 with on:=mvP i n e0.on}:=by
 unfold mvO;simp only [Cg]
 constructor
 ·rintro ⟨e0,h1,h2⟩;exact ⟨e0,h1,h2.symm⟩
 ·rintro ⟨e0,h1,h2⟩;exact ⟨e0,h1,h2.symm⟩
theorem atp {ops:Array Oper} {i j:Nat} (hi:i<ops.toList.length) (hj:j<ops.toList.length) (hE: ∀o∈ops.toList,∀e∈o.after.toList,Region.binds .any e=true→e.on<ops.toList.length):
 ∀{L:List Nat} {listed listed2:Array Bool},listed.size=ops.toList.length→listed2.size=ops.toList.length→(∀q,q<ops.toList.length→(Li listed2 (mvP i ops.toList.length q)↔Li listed q))→pT ops listed L→(Li listed j∨uB j i L)→pT (dU ops i j) listed2 (L.map (mvP i ops.toList.length))
 |[],listed,listed2,hs,hs2,hR,hp,_=>by
  show Region.ready .any (dU ops i j) listed2=[];have hp:Region.ready .any ops listed=[]:=hp
  cases hr:Region.ready .any (dU ops i j) listed2 with
  |nil=>rfl
  |cons p r=>
   exfalso
   have hm:p∈Region.ready .any (dU ops i j) listed2:=by rw [hr];simp
   obtain ⟨o,ho,h2,h3⟩:=(fF (by rw [jr];exact hs2)).1 hm
   have hpn:p<ops.toList.length:=by rw [←jr ops i j];exact (Bc.1 ho).1
   have hx:=anY hi hpn;have ho0:ops.toList[mvB i ops.toList.length p]? =some ops.toList[mvB i ops.toList.length p]:=Bd hx;have hg:=lz (j:=j) hi ho0;rw [am0 hi hpn,ho] at hg
   have:mvB i ops.toList.length p∈Region.ready .any ops listed:=(fF hs).2 ⟨_,ho0,fun c=>h2 (by
    have:=(hR _ hx).2 c
    rwa [am0 hi hpn] at this),fun e he hb=>by
    have hon:=hE _ (Bg ho0) e he hb;refine (hR _ hon).1 ?_;have hm2:({e with on:=mvP i ops.toList.length e.on}:Edge)∈o.after.toList:=by
     rw [Cb hg]
     split
     ·unfold wF
      exact Cr _ (zN.2 ⟨e,he,rfl⟩)
     ·exact zN.2 ⟨e,he,rfl⟩
    exact h3 _ hm2 hb⟩
   rw [hp] at this;cases this
 |x::L,listed,listed2,hs,hs2,hR,hp,hc=>by
  obtain ⟨h1,h2⟩:=hp;obtain ⟨o,ho,k2,k3⟩:=(fF hs).1 h1;have hx:=(Bc.1 ho).1;refine ⟨(fF (by rw [jr];exact hs2)).2 ⟨_,lz (j:=j) hi ho,fun c=>k2 ((hR x hx).1 c),fun e he hb=>?_⟩,atp hi hj hE (by simpa using hs) (by simpa using hs2) (fun q hq=>?_) h2 ?_⟩
  ·have old: ∀e∈(mvO i ops.toList.length o).after.toList,Region.binds .any e=true→Li listed2 e.on:=by
    intro e he hb;obtain ⟨e0,he0,rfl⟩:=zN.1 he;have hb0:Region.binds .any e0=true:=hb;exact (hR _ (hE _ (Bg ho) e0 he0 hb0)).2 (k3 e0 he0 hb0)
   split at he
   ·rename_i e0
    unfold wF at he;rcases Cd.1 he with he|he
    ·exact old e he hb
    ·rw [List.mem_singleton] at he
     subst he;refine (hR j hj).2 ?_;rcases hc with hc|hc
     ·exact hc
     ·have:=hc [] L (by simp [e0])
      cases this
   ·exact old e he hb
  ·rw [nV hs2 (ak2 hi hx),nV hs hx,hR q hq]
   constructor
   ·rintro (h|h)
    ·exact .inl h
    ·right
     have:=congrArg (mvB i ops.toList.length) h
     rwa [ajQ hi hq,ajQ hi hx] at this
   ·rintro (h|h)
    ·exact .inl h
    ·exact .inr (by rw [h])
  ·rcases hc with hc|hc
   ·exact .inl ((nV hs hx j).2 (.inl hc))
   ·rcases hc.tail with rfl|h
    ·exact .inl ((nV hs hx _).2 (.inr rfl))
    ·exact .inr h
variable {C:Cx} {ok:Nat→Prop} {w:World} {ρ:Rho} {h:AH} {run:Run}
theorem apg (X:c7 P C) (H:dB P C run) {id:Nat} {ops:Array Oper} {n:Nat} {ps:List Nat} {i j:Nat} (hok:aaV C ops i j=true) (hb: ∀o∈ops.toList,opB n o=true) {T:Tms} {a:Act} (I:Inv C ok w ρ h) (TT:TOk ok w ρ ps n T a.tmps) {T':Tms} {h':AH}
 (e1:jM C run (flL ps (dR ops i j).toList) T (bZ C (dR ops i j).toList (cr (dR ops i j).toList) 0 (bo C (dR ops i j).toList [] (dR ops i j).toList)) (bX C (dR ops i j)) h=some (.st T' h'))
 (e2:jM C run (flL ps (dU ops i j).toList) T (bZ C (dU ops i j).toList (cr (dU ops i j).toList) 0 (bo C (dU ops i j).toList [] (dU ops i j).toList)) (bX C (dU ops i j)) h=some (.st T' h'))
 (Q:Exit→Act→World→Prop) (hQ: ∀a' w' ok' ρ',Ext ok w ρ h ok' w' ρ' h'→Inv C ok' w' ρ' h'→TOk ok' w' ρ' ps n T' a'.tmps→a'.defers=a.defers→Q .normal a' w'):
 (Code.region id ops true).wp P Q a w:=by
 unfold aaV at hok;simp only [Ba] at hok;obtain ⟨⟨⟨⟨h1,h2⟩,h3⟩,h4⟩,h5⟩:=hok;have h1:i<j:=Be h1;have h2:j<ops.toList.length:=Be h2;have h3:=BG.1 h3;have hgd: ∀o∈ops.toList,o.guard=none:=fun o ho=>by
  have:=h3 o ho
  rw [Ba] at this
  simpa using this.1
 have hE: ∀o∈ops.toList,∀e∈o.after.toList,Region.binds .any e=true→e.on<ops.toList.length:=fun o ho e he hb=>by
  have:=h3 o ho
  rw [Ba] at this
  have:=BG.1 this.2 e he
  rw [hb] at this
  simpa using this
 have hi:i<ops.toList.length:=by omega
 refine wp_region_draw fun t=>?_
 simp only [Region.schedule,X.mixed,Bool.true_or,if_true];have hs:(Array.replicate ops.size false).size=ops.toList.length:=by simp
 obtain ⟨p1,p2⟩:=arn (ops:=ops) ops.size t (Array.replicate ops.size false) hs (by rw [Array.toList_replicate];simp)
 have lt:=afY hs p1;show wpOps P ops Q (Region.linearise.go .any ops ops.size t (Array.replicate ops.size false) []) a _
 generalize Region.linearise.go .any ops ops.size t (Array.replicate ops.size false) []=L at p1 p2 lt
 rcases amf (show i≠j by omega) L with hA|hA
 ·have q:=auf hs p1 (.inr hA)
  have wa:=qo X H h4 (fun o ho=>by
   obtain ⟨x,hx⟩:=List.getElem?_of_mem ho;have hx':x<ops.toList.length:=by rw [←jt ops i j];exact (Bc.1 hx).1
   have hg:=lL (i:=i) (j:=j) (Bd hx');rw [hx] at hg;rw [Cb hg]
   have:=hb _ (CE hx')
   split<;>exact this) I TT e1 Q hQ
  have sz:(dR ops i j).size=ops.size:=by
   have:=jt ops i j
   rwa [Bt,Bt] at this
  rw [sz] at wa
  have:=vz q p2 wa
  refine pd (ops':=dR ops i j) (fun x=>x) hgd (fun x o ho=>?_) lt (by rw [List.map_id'];exact this)
  refine ⟨(if x=j then wF o i else o).after,?_⟩;rw [lL ho]
  by_cases hx:x=j
  ·rw [if_pos hx];rfl
  ·rw [if_neg hx]
 ·have q:=atp (listed2:=Array.replicate ops.size false) hi h2 hE hs hs (fun q hq=>by
   have hn: ∀t,¬Li (Array.replicate ops.size false) t:=by
    intro t h;unfold Li at h;rw [Bz,Array.getElem?_replicate] at h
    split at h<;>simp at h
   exact ⟨fun h=>absurd h (hn _),fun h=>absurd h (hn _)⟩) p1 (.inr hA)
  have wa:=qo X H h5 (fun o ho=>by
   obtain ⟨p,hp⟩:=List.getElem?_of_mem ho;have hp':p<ops.toList.length:=by rw [←jr ops i j];exact (Bc.1 hp).1
   have hx:=anY hi hp';have hg:=lz (j:=j) hi (Bd hx);rw [am0 hi hp',hp] at hg;rw [Cb hg]
   have:=hb _ (CE hx)
   split<;>exact this) I TT e2 Q hQ
  have sz:(dU ops i j).size=ops.size:=by
   have:=jr ops i j
   rwa [Bt,Bt] at this
  rw [sz] at wa
  have:=vz q (by simpa using p2) wa
  refine pd (ops':=dU ops i j) (mvP i ops.toList.length) hgd (fun x o ho=>?_) lt this;refine ⟨(if x=i then wF (mvO i ops.toList.length o) (mvP i ops.toList.length j) else mvO i ops.toList.length o).after,?_⟩;rw [lz (j:=j) hi ho]
  by_cases hx:x=i
  ·rw [if_pos hx];rfl
  ·rw [if_neg hx];rfl
end
def Ex.to:Ex→Exit
 | .nrm=>.normal
 | .exit i=>.exit i
 | .ret=>.ret
def ata (D:Nat):Deferred:={target:=.collected D,args:= #[]}
structure Mark (nb:Nat) (ok:Nat→Prop) (w:World) (ρ:Rho) (h:AH) (D:Nat):Prop where
 low:nb≤D
 at_:w.heap[D]? =some (.deferred (some []))
 nok: ¬ok D
 free: ∀n,ab h n≠none→ρ n≠some D
def Marks (nb:Nat) (ok:Nat→Prop) (w:World) (ρ:Rho) (h:AH) (ds:List Deferred):Prop:=∃l:List Nat,ds=l.map ata∧l.Nodup∧ ∀D∈l,Mark nb ok w ρ h D
theorem Marks.nil (nb:Nat) (ok:Nat→Prop) (w:World) (ρ:Rho) (h:AH):Marks nb ok w ρ h []:=⟨[],rfl,List.nodup_nil,fun _ h=>nomatch h⟩
theorem Mark.ext {nb:Nat} {C:Cx} {ok:Nat→Prop} {w:World} {ρ:Rho} {h:AH} {ok':Nat→Prop} {w':World} {ρ':Rho} {h':AH} {D:Nat} (I:Inv C ok w ρ h) (E:Ext ok w ρ h ok' w' ρ' h') (m:Mark nb ok w ρ h D):Mark nb ok' w' ρ' h' D:=by
 have hD:D<w.heap.size:=(Bw.1 m.at_).1;refine ⟨m.low,by rw [E.keep D hD m.free];exact m.at_,fun hk=>?_,fun n hn e=>?_⟩
 ·rcases E.oknew D hk with hk|hk|⟨n,hn,en⟩
  ·exact m.nok hk
  ·omega
  ·exact m.free n hn en
 ·rcases E.rnew n D e with e1|⟨_,⟨k,hk,ek⟩|hs⟩
  ·have hnl:=(I.dom n D e1).1
   exact m.free n (E.alive n hnl hn) e1
  ·exact m.free k hk ek
  ·omega
theorem Marks.ext {nb:Nat} {C:Cx} {ok:Nat→Prop} {w:World} {ρ:Rho} {h:AH} {ok':Nat→Prop} {w':World} {ρ':Rho} {h':AH} {ds:List Deferred} (m:Marks nb ok w ρ h ds) (I:Inv C ok w ρ h) (E:Ext ok w ρ h ok' w' ρ' h'):Marks nb ok' w' ρ' h' ds:=by
 obtain ⟨l,h1,h2,h3⟩:=m;exact ⟨l,h1,h2,fun D hD=>(h3 D hD).ext I E⟩
theorem Marks.afD {nb:Nat} {ok:Nat→Prop} {w:World} {ρ:Rho} {h:AH} {w':World} {ds:List Deferred} {r:Nat} (m:Marks nb ok w ρ h ds) (hk: ∀k,k≠r→w'.heap[k]? =w.heap[k]?) (hr:w.heap[r]? ≠some (.deferred (some []))):Marks nb ok w' ρ h ds:=by
 obtain ⟨l,h1,h2,h3⟩:=m;exact ⟨l,h1,h2,fun D hD=>⟨(h3 D hD).low,by rw [hk D (fun e=>hr (e▸(h3 D hD).at_))];exact (h3 D hD).at_,(h3 D hD).nok,(h3 D hD).free⟩⟩
theorem Marks.names {nb:Nat} {ok:Nat→Prop} {w:World} {ρ ρ':Rho} {h h':AH} {ds:List Deferred} (m:Marks nb ok w ρ h ds) (hs: ∀n D,ab h' n≠none→ρ' n=some D→ab h n≠none∧ρ n=some D):Marks nb ok w ρ' h' ds:=by
 obtain ⟨l,h1,h2,h3⟩:=m;exact ⟨l,h1,h2,fun D hD=>⟨(h3 D hD).low,(h3 D hD).at_,(h3 D hD).nok,fun n hn e=>(h3 D hD).free n (hs n D hn e).1 (hs n D hn e).2⟩⟩
structure SOk (nb:Nat) (C:Cx) (ok:Nat→Prop) (w:World) (ρ:Rho) (ps:List Nat) (n:Nat) (s:St) (a:Act):Prop where
 inv:Inv C ok w ρ s.h
 tm:TOk ok w ρ ps n s.t a.tmps
 df:Marks nb ok w ρ s.h a.defers
 nl:nb≤w.heap.size
def j6 (nb:Nat) (C:Cx) (ok:Nat→Prop) (w:World) (ρ:Rho) (ps:List Nat) (n:Nat) (h:AH) (ex:Ex) (s':St):Exit→Act→World→Prop:=
 fun e a' w'=>e=ex.to∧ ∃ok' ρ',Ext ok w ρ h ok' w' ρ' s'.h∧SOk nb C ok' w' ρ' ps n s' a'
def na (P:Program) (c:Code) (Q:Exit→Act→World→Prop) (a:Act) (w:World):Prop:=
 ∀(b:Frame) (k:List Item) (cs:List Frame),∃e a' w',Q e a' w'∧Arrives P (lone (b.at a (.code c:: .inLoop c::k)) cs w) b k cs e a' w'
theorem na.wp {P:Program} {c:Code} {Q:Exit→Act→World→Prop} {a:Act} {w:World} (h:na P c Q a w):(Code.loop c).wp P Q a w:=
 fun b k cs=>let ⟨e,a',w',q,r⟩:=h b k cs;⟨e,a',w',q,.of_steps (.one step_loop) r⟩
theorem lO {P:Program} {c:Code} {Q:Exit→Act→World→Prop} {a:Act} {w:World} (h:c.wp P (Exit.then (na P c Q) Q) a w):na P c Q a w:=by
 intro b k cs;obtain ⟨e,a₁,w₁,hq,harr⟩:=h b (.inLoop c::k) cs
 cases e with
 |normal=>
  obtain ⟨e₂,a₂,w₂,hq₂,harr₂⟩:=hq b k cs;exact ⟨e₂,a₂,w₂,hq₂,.of_steps (Steps.trans harr (.one step_inLoop)) harr₂⟩
 |exit id=>exact ⟨_,a₁,w₁,hq,.pass (x:=.inLoop c) rfl (fun _ _=>.inl (by simp)) harr⟩
 |goto l=>exact ⟨_,a₁,w₁,hq,.pass (x:=.inLoop c) rfl (fun _ _=>.inl (by simp)) harr⟩
 |ret=>exact ⟨_,a₁,w₁,hq,.pass (x:=.inLoop c) rfl (fun _ _=>.inl (by simp)) harr⟩
 |panic ch=>exact ⟨_,a₁,w₁,hq,.pass (x:=.inLoop c) rfl (fun _ _=>.inl (by simp)) harr⟩
 |outgrown=>exact ⟨_,a₁,w₁,hq,.pass (x:=.inLoop c) rfl (fun _ _=>.inl (by simp)) harr⟩
def agO (P:Program) (C:Cx) (lp:Lp):Prop:=∀(nb:Nat) c ps n s ex s',lp (comp C ps c) s=some (ex,s')→dI n c=true→ ∀ok w ρ a,SOk nb C ok w ρ ps n s a→na P c (j6 nb C ok w ρ ps n s.h ex s') a w
section
variable {nb:Nat} {P:Program} {C:Cx} {run:Run} {lp:Lp}
theorem j6.trans {ok:Nat→Prop} {w:World} {ρ:Rho} {ps:List Nat} {n:Nat} {s s1 s':St} {a:Act} (S:SOk nb C ok w ρ ps n s a) {ok1:Nat→Prop} {w1:World} {ρ1:Rho} (E:Ext ok w ρ s.h ok1 w1 ρ1 s1.h) {ex:Ex} {e:Exit} {a':Act} {w':World}
 (p:j6 nb C ok1 w1 ρ1 ps n s1.h ex s' e a' w'):j6 nb C ok w ρ ps n s.h ex s' e a' w':=by
 obtain ⟨h1,ok',ρ',E',S'⟩:=p;exact ⟨h1,ok',ρ',Ext.trans S.inv E E',S'⟩
theorem kT {x:Option Rs} {ex:Ex} {s':St} (e:dr x=some (ex,s')):ex= .nrm∧x=some (.st s'.t s'.h):=by
 obtain ⟨r,h1,h2⟩:=ai e
 cases r with
 |st t h=>cases h2;exact ⟨rfl,h1⟩
 |vh v h=>cases h2
theorem xP {b:Kr} {x:Ex×St} {r:Ex×St} (e:vf b x=some r):(x.1= .nrm∧b x.2=some r)∨(x.1≠ .nrm∧x=r):=by
 obtain ⟨ex,s⟩:=x
 cases ex with
 |nrm=>exact .inl ⟨rfl,e⟩
 |exit i=>cases e;exact .inr ⟨by simp,rfl⟩
 |ret=>cases e;exact .inr ⟨by simp,rfl⟩
theorem lV {ex:Ex} (hx:ex≠ .nrm) {next:Act→World→Prop} {Q:Exit→Act→World→Prop} {a:Act} {w:World} (h:Q ex.to a w):Exit.then next Q ex.to a w:=by
 cases ex with
 |nrm=>exact absurd rfl hx
 |exit i=>exact h
 |ret=>exact h
end
section
open Go.ChangeMaps (setBlock)
section
variable {nb:Nat} {P:Program} {C:Cx} {run:Run}
theorem afv (X:c7 P C) (H:dB P C run) {ops:Array Oper} {n:Nat} (hb: ∀o∈ops.toList,opB n o=true) (T:Tms) {rs:Rs} {fin:List AV→AH→Option Rs}: ∀(l r:List Oper) (k:Nat) {ok:Nat→Prop} {w:World} {ρ:Rho} {h:AH} {ds:List (Option Nat)} {σ:List AV} {a:Act},
 ops.toList.drop k=l++r→n≤a.tmps.size→Inv C ok w ρ h→RI ok w ρ ds σ T a.tmps→wu C run T (bo C ops.toList ds l) fin σ h=some rs→
 ∀Q tl,(∀a' w' ok' ρ' σ' h',fin σ' h'=some rs→Ext ok w ρ h ok' w' ρ' h'→Inv C ok' w' ρ' h'→RI ok' w' ρ' ((l.map (·.dst)).reverse++ds) σ' T a'.tmps→a'.tmps.size=a.tmps.size→a'.defers=a.defers→wpOps P ops Q tl a' w')→wpOps P ops Q (List.range' k l.length++tl) a w
 |[],r,k,ok,w,ρ,h,ds,σ,a,hk,hs,I,R,e=>by
  intro Q tl hQ;exact hQ a w ok ρ σ h e (Ext.refl _ _ _ _) I R rfl rfl
 |o::l,r,k,ok,w,ρ,h,ds,σ,a,hk,hs,I,R,e=>by
  have hko:ops[k]? =some o:=by
   rw [←Bk]
   have:=congrArg (·[0]?) hk
   simpa using this
  have hmem:o∈ops.toList:=Bg (by rw [Bk];exact hko)
  have hk':ops.toList.drop (k+1)=l++r:=by
   have:=congrArg (·.drop 1) hk
   simpa [Dt] using this
  have e:(jV C ops.toList ds o).f C run σ T h (fun v=>wu C run T (bo C ops.toList (o.dst::ds) l) fin (v::σ))=some rs:=e;obtain ⟨v,h1,e1,k1⟩:=tU X H I hko (fun x _=>R.operand I x) e;have hD: ∀d,o.dst=some d→d<a.tmps.size:=by
   intro d hd
   have:=hb o hmem
   unfold opB at this;rw [hd] at this
   have:d<n:=by simpa [Ce] using this
   exact Bm this hs
  intro Q tl hQ;show wpOps P ops Q (k::(List.range' (k+1) l.length++tl)) a w;rw [wpOps_cons];refine k1 _ Q (fun u w1 ok1 ρ1 E1 I1 V1=>?_);refine afv X H hb T l r (k+1) hk' (by rw [(fe a o.dst u).1];exact hs) I1 ((R.up E1.up).push V1 hD) e1 Q tl (fun a' w' ok' ρ' σ' h' q1 q2 q3 q4 q5 q6=>?_);refine hQ a' w' ok' ρ' σ' h' q1 (Ext.trans I E1 q2) q3 ?_ (q5.trans (fe a o.dst u).1) (q6.trans (fe a o.dst u).2)
  simpa using q4
theorem Ext.dead {ok:Nat→Prop} {w:World} {ρ:Rho} {h:AH} (I:Inv C ok w ρ h) {w':World} {o:Obj} (hh:w'.heap=w.heap.push o) (h1:w'.os=w.os) (h2:w'.tape=w.tape) (h3:w'.output=w.output):
 Ext ok w ρ h ok w' (cG ρ h.length w.heap.size) (av h [none])∧Inv C ok w' (cG ρ h.length w.heap.size) (av h [none]):=by
 have same: ∀r,r<w.heap.size→w'.heap[r]? =w.heap[r]? :=fun r hr=>by rw [hh,CX,if_neg (by omega)]
 have old: ∀n r,ρ n=some r→cG ρ h.length w.heap.size n=some r:=fun n r e=>by
  have:=(I.dom n r e).1
  unfold cG;rw [if_neg (by omega)];exact e
 have U:Up ok w ρ ok w' (cG ρ h.length w.heap.size):=by
  refine ⟨fun r hr=>same r (I.okb r hr),fun _ h=>h,fun r s hs=>?_,old⟩;rw [eL (same r ?_)];exact hs;rcases BN r w.heap.size with l|l
  ·exact l
  ·simp [World.shape?,CN l] at hs
 have lenE:(av h [none]).length=h.length+1:=by rw [fY];rfl
 have get: ∀n,ab (av h [none]) n=ab h n:=by
  intro n;rw [cN]
  split
  ·rfl
  ·next hn=>
   have a:ab h n=none:=by rw [bE,BC (by omega)];rfl
   rw [a]
   cases hm:n-h.length with
   |zero=>rfl
   |succ m=>rfl
 have back: ∀n r,cG ρ h.length w.heap.size n=some r→ρ n=some r∨(n=h.length∧r=w.heap.size):=by
  intro n r e;unfold cG at e
  split at e
  ·next en=>cases e;exact .inr ⟨en,rfl⟩
  ·exact .inl e
 refine ⟨⟨U,by rw [hh];simp,h1,h2,h3,by rw [lenE];omega,fun r hr _=>same r hr,fun _ h=>.inl h,fun n _ e=>by rw [get] at e;exact e,fun n r e=>?_⟩,⟨fun r hr=>?_,fun n r e=>?_,fun n b e=>?_,fun n m r hn hm e1 e2=>?_,I.aba U⟩⟩
 ·rcases back n r e with e|⟨rfl,rfl⟩
  ·exact .inl e
  ·exact .inr ⟨A9 _,.inr (A9 _)⟩
 ·have:=I.okb r hr;rw [hh];simp;omega
 ·rcases back n r e with e|⟨rfl,rfl⟩
  ·have:=I.dom n r e;rw [lenE,hh];simp;omega
  ·rw [lenE,hh];simp
 ·rw [get] at e
  obtain ⟨r,r1,r2,r3⟩:=I.live n b e;exact ⟨r,old n r r1,r2,r3.up U (same r (I.dom n r r1).2)⟩
 ·rw [get] at hn hm
  have a: ∀n,ab h n≠none→cG ρ h.length w.heap.size n=some r→ρ n=some r:=by
   intro n hn e;rcases back n r e with e|⟨rfl,_⟩
   ·exact e
   ·exact absurd (cJ hn) (by omega)
  exact I.inj n m r hn hm (a n hn e1) (a m hm e2)
theorem mE (f:Nat→AV→AV): ∀(t:Tm) (i:Nat),tin (tE f t) i=tin t i
 | .nl,_=>rfl
 | .lf k v,i=>rfl
 | .nd m l r,i=>by
   show bq (Nat.ble m i) (tin (tE f r) i) (tin (tE f l) i)=bq (Nat.ble m i) (tin r i) (tin l i);rw [mE f r i,mE f l i]
theorem jd (f:Nat→AV→AV): ∀(t:Tm) (i:Nat),bc (tE f t) i=bq (tin t i) (f i (bc t i)) .bot
 | .nl,_=>rfl
 | .lf k v,i=>by
   show bq (Nat.beq i k) (f k v) .bot=bq (Nat.beq i k) (f i (bq (Nat.beq i k) v .bot)) .bot
   cases hk:Nat.beq i k with
   |false=>rfl
   |true=>rw [A8 hk];rfl
 | .nd m l r,i=>by
   show bq (Nat.ble m i) (bc (tE f r) i) (bc (tE f l) i)=bq (bq (Nat.ble m i) (tin r i) (tin l i)) (f i (bq (Nat.ble m i) (bc r i) (bc l i))) .bot
   cases hm:Nat.ble m i with
   |true=>exact jd f r i
   |false=>exact jd f l i
theorem ug {p:AV→Bool} (hp:p .bot=true): ∀(t:Tm),arp p t=true→ ∀i,p (bc t i)=true
 | .nl,_,_=>hp
 | .lf k v,h,i=>by
   show p (bq (Nat.beq i k) v .bot)=true
   cases Nat.beq i k with
   |true=>exact h
   |false=>exact hp
 | .nd m l r,h,i=>by
   have h:and (arp p l) (arp p r)=true:=h;rw [Ba] at h;show p (bq (Nat.ble m i) (bc r i) (bc l i))=true
   cases Nat.ble m i with
   |true=>exact ug hp r h.2 i
   |false=>exact ug hp l h.1 i
theorem akC {ok:Nat→Prop} {w:World} {ρ:Rho} {h:AH} (I:Inv C ok w ρ h) {ps:List Nat} {n:Nat} {ok1:Nat→Prop} {w1:World} {ρ1:Rho} {s s':St} {a:Act} (E:Ext ok w ρ h ok1 w1 ρ1 s.h) (S:SOk nb C ok1 w1 ρ1 ps n s a) {kp:Bool} {it:Nat} {t0:Tms}
 (e:amX kp it t0 h.length s=some s'):(∃ρ2,Ext ok w ρ h ok1 w1 ρ2 s'.h∧SOk nb C ok1 w1 ρ2 ps n s' a∧(∀n r,n<h.length→ρ1 n=some r→ρ2 n=some r)∧(∀n r,ρ2 n=some r→n<h.length∧ρ1 n=some r))∧
  s'.h.length=h.length∧(tin s.t it=true→bc s'.t it=bc t0 it)∧(∀i,bc t0 i= .bot→bc s'.t i= .bot)∧(∀i,tin s'.t i=tin s.t i):=by
 obtain ⟨e1,e2⟩:=aB (show bq _ _ none=some s' from e)
 cases e2
 rw [Ba,Ba,aS] at e1;obtain ⟨⟨e3,e4⟩,e5⟩:=e1;obtain ⟨ρ2,E2,I2,sub,sub'⟩:=aap I E S.inv e5;have same:=mP e3;have get: ∀i,bc (tE (fun k v=>bq (or (AV.same (bc t0 k) v) (and kp (not (AV.same .bot (bc t0 k))))) v .bot) s.t) i=bq (tin s.t i) (bq (or (AV.same (bc t0 i) (bc s.t i)) (and kp (not (AV.same .bot (bc t0 i))))) (bc s.t i) .bot) .bot:=fun i=>jd _ _ _
 refine ⟨⟨ρ2,by rw [aS];exact E2,⟨by rw [aS];exact I2,⟨S.tm.size,fun i hi=>S.tm.inn i (by rw [mE] at hi;exact hi),S.tm.low,fun i=>?_⟩,S.df.names fun n D hn e=>⟨by
  have:=(sub' n D e).1
  rw [show (cE h.length s.h)=s.h.take h.length from aS _ _,bE,CW this,←bE] at hn;exact hn,(sub' n D e).2⟩,S.nl⟩,sub,sub'⟩,?_,fun hi=>?_,fun i h0=>?_,fun i=>mE _ _ _⟩
 ·have lt:=ug (p:=AV.lt h.length) rfl _ e4 i
  refine V.names (k:=h.length) _ (fun n r hn=>sub n r hn) lt ?_;rw [get]
  cases tin s.t i with
  |false=>simp only [aE,V]
  |true=>
   rw [aA]
   cases or (AV.same (bc t0 i) (bc s.t i)) (and kp (not (AV.same .bot (bc t0 i)))) with
   |false=>simp only [aE,V]
   |true=>exact S.tm.get i
 ·rw [aS,Bq];have:=E.len;omega
 ·show bc (tE _ s.t) it=_
  rw [get,hi,e3];exact same.symm
 ·show bc (tE _ s.t) i=_
  rw [get]
  cases tin s.t i with
  |false=>rfl
  |true=>
   rw [aA]
   cases hs:AV.same (bc t0 i) (bc s.t i) with
   |false=>
    rw [h0]
    cases kp<;>rfl
   |true=>exact (mP hs).symm.trans h0
structure Shape (nx en:Array Oper) (it q c e:Nat):Prop where
 nx: ∃n1 n2,nx= #[n1,n2]∧n1.dst=some q∧n1.op= .next (.tmp it) false∧n1.guard=none∧n2.dst=some c∧n2.op= .extract (.tmp q) 0∧n2.guard=none
 en: ∃e1 r,en.toList=e1::r∧e1.dst=some e∧e1.op= .entry (.tmp it)∧e1.guard=none
 itq:it≠q
 itc:it≠c
theorem qL {ops:Array Oper} {Q:Exit→Act→World→Prop} {i:Nat} {o:Oper} (hi:ops[i]? =some o) (hg:o.guard=none) {a:Act} {w w':World} {v:Value} (hr:(execOp a.eval o).run P w= .ok (.value v) w') {K:Act→World→Prop} (hk:K (a.put o.dst v) w'):wpOp P ops Q i K a w:=by
 unfold wpOp;rw [hi];simp only [Region.wanted,hg,if_true];refine .inl ?_;unfold Oper.wp;rw [hr];exact hk
theorem SOk.put {ok:Nat→Prop} {w:World} {ρ:Rho} {ps:List Nat} {n:Nat} {s:St} {a:Act} (S:SOk nb C ok w ρ ps n s a) {d:Nat} {u:Value} (hd:bc s.t d= .bot):SOk nb C ok w ρ ps n s (a.put (some d) u):=by
 refine ⟨S.inv,⟨?_,S.tm.inn,S.tm.low,fun i=>?_⟩,S.df,S.nl⟩
 ·show n≤(a.tmps.setIfInBounds d u).size
  simpa using S.tm.size
 ·show V ok w (bc s.t i) ρ ((a.tmps.setIfInBounds d u).getD i undef)
  rw [ju]
  split
  ·next h=>rw [←h.1,hd];simp only [V]
  ·exact S.tm.get i
end
end
section
open Go.ChangeMaps (setBlock)
section
variable {nb:Nat} {P:Program} {C:Cx} {run:Run} {kp:Bool}
theorem pw {ok:Nat→Prop} {w w':World} {ρ:Rho} {h:AH} {r:Nat} (I:Inv C ok w ρ h) (hs:w'.heap.size=w.heap.size) (hk: ∀k,k≠r→w'.heap[k]? =w.heap[k]?) (hsh:w.shape? r=none) (hn: ¬ok r) (hf: ∀m,ab h m≠none→ρ m≠some r):
 Up ok w ρ ok w' ρ∧Inv C ok w' ρ h:=by
 have U:Up ok w ρ ok w' ρ:=by
  refine ⟨fun b hb=>hk b (fun c=>hn (c▸hb)),fun _ h=>h,fun b s hb=>?_,fun _ _ h=>h⟩
  by_cases hbr:b=r
  ·subst hbr;rw [hsh] at hb;cases hb
  ·rw [eL (hk b hbr)];exact hb
 refine ⟨U,⟨fun b hb=>by rw [hs];exact I.okb b hb,fun m b e=>by rw [hs];exact I.dom m b e,fun m b e=>?_,I.inj,I.aba U⟩⟩
 obtain ⟨s,s1,s2,s3⟩:=I.live m b e;exact ⟨s,s1,s2,s3.up U (hk s (fun c=>hf m (by rw [e];simp) (by rw [s1,c])))⟩
theorem mZ {okB:Nat→Prop} {wB:World} {ρB:Rho} {hB:AH} {ok:Nat→Prop} {w w':World} {ρ:Rho} {h:AH} {r:Nat} (IB:Inv C okB wB ρB hB) (B:Ext okB wB ρB hB ok w ρ h) (hr:wB.heap.size≤r) (U:Up ok w ρ ok w' ρ)
 (hs:w'.heap.size=w.heap.size) (hk: ∀k,k≠r→w'.heap[k]? =w.heap[k]?) (h1:w'.os=w.os) (h2:w'.tape=w.tape) (h3:w'.output=w.output):Ext okB wB ρB hB ok w' ρ h:=by
 refine ⟨⟨fun b hb=>?_,B.up.oku,fun b s hb=>U.shp b s (B.up.shp b s hb),B.up.nam⟩,by rw [hs];exact B.size,h1.trans B.os,h2.trans B.tape,h3.trans B.output,B.len,fun b hb hn=>?_,B.oknew,B.alive,B.rnew⟩
 ·have:=IB.okb b hb
  rw [hk b (by omega)];exact B.up.okb b hb
 ·rw [hk b (by omega)];exact B.keep b hb hn
structure amn (nb:Nat) (C:Cx) (okB:Nat→Prop) (wB:World) (ρB:Rho) (hB:AH) (ps:List Nat) (n it q c N r mr ck n0:Nat) (es:Array MapEntry) (ks vs:List AV) (tr:RT) (ms:List Bool) (s:St) (ok:Nat→Prop) (w:World) (ρ:Rho) (a:Act):Prop where
 S:SOk nb C ok w ρ ps n s a
 B:Ext okB wB ρB hB ok w ρ s.h
 len:s.h.length=n0
 tq:bc s.t q= .bot
 tc:bc s.t c= .bot
 ti:bc s.t it= .pto N 0
 tn:tin s.t it=true
 nam:ρ N=some r
 itr: ∃seen c0,w.heap[r]? =some (.mapIter (some mr) ck seen c0)∧ck≤c0∧ ∀(i:Nat) (x:MapEntry),es.toList[i]? =some x→ms[i]? =some (seen.contains x.born)
 mp:w.heap[mr]? =some (.map es ck)
 okm:ok mr
 nok: ¬ok r
 free: ∀m,ab s.h m≠none→ρ m≠some r
 keys:VL ok w ks ρ0 (es.toList.map (·.key))
 vals:VL ok w vs ρ0 (es.toList.map (·.val))
 ml:ms.length=es.size
 leaf:iM ms tr=some s
theorem agu {ok:Nat→Prop} {w:World} {ρ:Rho} {cs:List AV} {us:List Value} {i:Nat} {u:Value} (h:VL ok w cs ρ us) (e:us[i]? =some u): ∃c,cs[i]? =some c∧V ok w c ρ u:=by
 have hi:=(Bc.1 e).1;have hl:=cm h;have hc:i<cs.length:=by omega
 obtain ⟨u',h1,h2⟩:=pb h (Bd hc);rw [e] at h1
 cases h1
 exact ⟨_,Bd hc,h2⟩
set_option maxHeartbeats 1000000 in
theorem an8 (X:c7 P C) (H:dB P C run) {ps:List Nat} {n it q c e:Nat} {nx en:Array Oper} (sh:Shape nx en it q c e) (hbn: ∀o∈nx.toList,opB n o=true) (hbe: ∀o∈en.toList,opB n o=true) {id1 id2 jn je:Nat} {rest:Code} {kr:Kr}
 (KR: ∀{s:St} {ex:Ex} {s':St},kr s=some (ex,s')→ ∀{ok:Nat→Prop} {w:World} {ρ:Rho} {a:Act},SOk nb C ok w ρ ps n s a→rest.wp P (j6 nb C ok w ρ ps n s.h ex s') a w)
 {okB:Nat→Prop} {wB:World} {ρB:Rho} {hB:AH} (IB:Inv C okB wB ρB hB) {N r mr ck n0:Nat} (hr:wB.heap.size≤r) {es:Array MapEntry} (st:wA es ck) {ks vs:List AV} {tr:RT} {t0:Tms} (t0q:bc t0 q= .bot) (t0c:bc t0 c= .bot) (t0i:bc t0 it= .pto N 0)
 (okT:aa9 (afZ kp C run kr (bo C en.toList [some e] en.toList.tail) (flL ps en.toList) id2 it t0 n0) ks vs tr=true)
 {ms:List Bool} {s:St} {ok:Nat→Prop} {w:World} {ρ:Rho} {a:Act} (L:amn nb C okB wB ρB hB ps n it q c N r mr ck n0 es ks vs tr ms s ok w ρ a) (QL:Exit→Act→World→Prop)
 (done: ∀a' w',(∀m∈ms,m=true)→amn nb C okB wB ρB hB ps n it q c N r mr ck n0 es ks vs tr ms s ok w' ρ a'→QL (.exit id1) a' w')
 (next: ∀i s' ok' w' ρ' a',ms[i]? =some false→amn nb C okB wB ρB hB ps n it q c N r mr ck n0 es ks vs tr (ms.set i true) s' ok' w' ρ' a'→QL .normal a' w'):
 (Code.seq (.region jn nx false) (.seq (.cond (.tmp c) .skip (.exit id1)) (.block id2 (.seq (.region je en false) rest)))).wp P QL a w:=by
 obtain ⟨⟨n1,n2,rfl,a1,a2,a3,b1,b2,b3⟩,⟨e1,etl,hen,c1,c2,c3⟩,itq,itc⟩:=sh;obtain ⟨dst1,op1,ty1,pos1,af1,g1⟩:=n1;obtain ⟨dst2,op2,ty2,pos2,af2,g2⟩:=n2;simp only at a1 a2 a3 b1 b2 b3;subst a1 a2 a3 b1 b2 b3;have hq:q<n:=by have:=hbn ⟨some q,.next (.tmp it) false,ty1,pos1,af1,none⟩ (by simp);simpa [opB,Ce] using this
 have hc:c<n:=by have:=hbn ⟨some c,.extract (.tmp q) 0,ty2,pos2,af2,none⟩ (by simp);simpa [opB,Ce] using this
 obtain ⟨seen,c0,ir,ic,im⟩:=L.itr;have hev:a.eval (.tmp it)= .pointer (some ⟨r,0,none⟩):=by
  have:=L.S.tm.get it
  rw [L.ti] at this;simp only [V] at this;obtain ⟨r',r1,r2⟩:=this;rw [L.nam] at r1
  cases r1
  exact r2
 have hsz:=L.S.tm.size
 -- the first region, whatever comes
 have R4: ∀(b:Bool) (v:Array Value) (w2:World) (Q:Exit→Act→World→Prop),v[0]? =some (.bool b)→(Instr.next (.pointer (some ⟨r,0,none⟩)) false ty1).run P w= .ok (.tuple v) w2→Q .normal ((a.put (some q) (.tuple v)).put (some c) (.bool b)) w2→
  (Code.region jn #[⟨some q,.next (.tmp it) false,ty1,pos1,af1,none⟩,⟨some c,.extract (.tmp q) 0,ty2,pos2,af2,none⟩] false).wp P Q a w:=by
  intro b v w2 Q hv hrun hQ;refine wp_region ?_;show wpOps P _ Q [0,1] a w;rw [wpOps_cons];refine qL (o:=⟨some q,.next (.tmp it) false,ty1,pos1,af1,none⟩) (v:=.tuple v) (w':=w2) rfl rfl ?_ ?_
  ·show ((do pure (.value (←Instr.next (a.eval (.tmp it)) false ty1)):Sem Next)).run P w=_
   rw [hev]
   simp [hrun]
  ·rw [wpOps_cons]
   refine qL (o:=⟨some c,.extract (.tmp q) 0,ty2,pos2,af2,none⟩) (v:=.bool b) (w':=w2) rfl rfl ?_ hQ;show ((do pure (.value (←Instr.extract ((a.put (some q) (.tuple v)).eval (.tmp q)) 0)):Sem Next)).run P w2=_
   have:(a.put (some q) (.tuple v)).eval (.tmp q)= .tuple v:=by
    show (a.tmps.setIfInBounds q (.tuple v)).getD q undef=_;rw [ju,if_pos ⟨rfl,by omega⟩]
   rw [this]
   simp [Instr.extract,hv]
 have evc: ∀(b:Bool) (v:Value),((a.put (some q) v).put (some c) (.bool b)).eval (.tmp c)= .bool b:=by
  intro b v;show ((a.tmps.setIfInBounds q v).setIfInBounds c (.bool b)).getD c undef=_;rw [ju,if_pos ⟨rfl,by simp;omega⟩]
 have put: ∀{w2:World} (b:Bool) (v:Value),SOk nb C ok w2 ρ ps n s a→SOk nb C ok w2 ρ ps n s ((a.put (some q) v).put (some c) (.bool b)):=fun b v h=>(h.put L.tq).put L.tc
 rcases run_next_at (P:=P) w ty1 r mr ck c0 seen es ck ir L.mp (fun x hx=>st.1 x hx) ic with ⟨h0,hrun⟩|⟨x,hx,w1,hw1,hrun⟩
 ·--nothing is left
  refine wp_seq (R4 false _ w _ rfl hrun ?_);refine wp_seq (wp_cond_false (evc false _) (wp_exit ?_));refine done _ w (fun m hm=>?_) ⟨put _ _ L.S,L.B,L.len,L.tq,L.tc,L.ti,L.tn,L.nam,L.itr,L.mp,L.okm,L.nok,L.free,L.keys,L.vals,L.ml,L.leaf⟩;obtain ⟨i,hi,rfl⟩:=List.getElem_of_mem hm;have hie:i<es.toList.length:=by rw [Bt,←L.ml];exact hi
  have h1:=im i _ (Bd hie);rw [all_seen es seen h0 _ (CE hie),Bd hi] at h1
  simpa using h1
 ·--an entry comes
  obtain ⟨hxm,hxs⟩:=mem_left hx;obtain ⟨i,hi,hix⟩:=List.getElem_of_mem hxm;have hxi:es.toList[i]? =some x:=by rw [Bd hi,hix]
  have hmi:ms[i]? =some false:=by rw [im i x hxi,hxs]
  obtain ⟨kk,hk1,hk2⟩:=agu L.keys (show (es.toList.map (·.key))[i]? =some x.key by rw [Bn,hxi];rfl)
  obtain ⟨vv,hv1,hv2⟩:=agu L.vals (show (es.toList.map (·.val))[i]? =some x.val by rw [Bn,hxi];rfl)
  obtain ⟨s',lf',hbody⟩:=zK okT L.leaf hmi hk1 hv1;obtain ⟨w2,hw2⟩: ∃w2,setBlock w1 r (.mapIter (some mr) ck (seen.push x.born) ck)=w2:=⟨_,rfl⟩;rw [hw2] at hrun;have hrlt:r<w.heap.size:=(L.S.inv.dom N r L.nam).2;have hwh:w1.heap=w.heap∧w1.os=w.os∧w1.tape=w.tape∧w1.output=w.output:=by rcases hw1 with rfl|rfl<;>exact ⟨rfl,rfl,rfl,rfl⟩
  have hs2:w2.heap.size=w.heap.size:=by rw [←hw2];simp [setBlock,hwh.1]
  have hk2': ∀k,k≠r→w2.heap[k]? =w.heap[k]? :=by
   intro k hk;rw [←hw2]
   simp [setBlock,hwh.1,Cp,Ne.symm hk]
  have hr2:w2.heap[r]? =some (.mapIter (some mr) ck (seen.push x.born) ck):=by
   rw [←hw2]
   simp [setBlock,hwh.1,hrlt]
  have hos:w2.os=w.os∧w2.tape=w.tape∧w2.output=w.output:=by rw [←hw2];exact hwh.2
  have hne:mr≠r:=fun hh=>L.nok (hh▸L.okm)
  obtain ⟨U2,I2⟩:=pw L.S.inv hs2 hk2' (by simp [World.shape?,ir]) L.nok L.free;have B2:=mZ IB L.B hr U2 hs2 hk2' hos.1 hos.2.1 hos.2.2;have T2:SOk nb C ok w2 ρ ps n s a:=⟨I2,⟨L.S.tm.size,L.S.tm.inn,L.S.tm.low,fun i=>V.up _ U2 (L.S.tm.get i)⟩,L.S.df.afD hk2' (by rw [ir];simp),by rw [hs2];exact L.S.nl⟩;have mp2:w2.heap[mr]? =some (.map es ck):=(hk2' mr hne).trans L.mp;refine wp_seq (R4 true _ w2 _ rfl hrun ?_);refine wp_seq (wp_cond_true (evc true _) (wp_skip ?_));obtain ⟨a2,ha2⟩: ∃a2,(a.put (some q) (.tuple #[.bool true,x.key,x.val])).put (some c) (.bool true)=a2:=⟨_,rfl⟩;rw [ha2];have S2:SOk nb C ok w2 ρ ps n s a2:=by rw [←ha2];exact put _ _ T2
  have hev2:a2.eval (.tmp it)= .pointer (some ⟨r,0,none⟩):=by
   have:=S2.tm.get it
   rw [L.ti] at this;simp only [V] at this;obtain ⟨r',r1,r2⟩:=this;rw [L.nam] at r1
   cases r1
   exact r2
  -- the evaluator's round
  obtain ⟨rs,q1,q2⟩:=ai (show au _ _=some s' from hbody)
  cases rs with
  |vh v h=>cases q2
  |st T3 h3=>
  obtain ⟨⟨ex,s4⟩,q3,q4⟩:=ai (show au (kr ⟨T3,h3⟩) _=some s' from q2);obtain ⟨s5,q5,q6⟩:=ai q4;rw [←L.len] at q6
  -- the round's end
  have fin: ∀(ok':Nat→Prop) (w':World) (ρ':Rho) (a':Act),Ext ok w2 ρ s.h ok' w' ρ' s4.h→SOk nb C ok' w' ρ' ps n s4 a'→s5=s4→QL .normal a' w':=by
   rintro ok' w' ρ' a' E' S' rfl;obtain ⟨⟨ρ2,E3,S3,sub,sub'⟩,l3,i3,bot3,tin3⟩:=akC I2 E' S' q6;have hN:=(I2.dom N r L.nam).1;have ρ2N:ρ2 N=some r:=sub N r hN (E'.up.nam N r L.nam);have tn4:tin s5.t it=true:=by
    by_cases hh:tin s5.t it=true
    ·exact hh
    ·exfalso
     have hh:tin s5.t it=false:=by simpa using hh
     obtain ⟨z1,_⟩:=aB (show bq _ _ none=some s' from q6);rw [Ba,Ba] at z1
     have:=mP z1.1.1
     rw [iD _ _ hh,t0i] at this
     cases this
   have back: ∀m,ab s'.h m≠none→ρ2 m≠some r:=by
    intro m hm e;obtain ⟨ml,me⟩:=sub' m r e;have hm':ab s.h m≠none:=E3.alive m ml hm;rcases E'.rnew m r me with e1|⟨e1,_⟩
    ·exact L.free m hm' e1
    ·omega
   have nok': ¬ok' r:=by
    intro hk;rcases E'.oknew r hk with hk|hk|⟨m,hm,em⟩
    ·exact L.nok hk
    ·omega
    ·exact L.free m hm em
   have keepr:w'.heap[r]? =w2.heap[r]? :=E'.keep r (by omega) L.free;have Uk:Up ok w2 ρ0 ok' w' ρ0:=E'.up.pure;refine next i s' ok' w' ρ2 a' hmi ⟨S3,Ext.trans IB B2 E3,l3.trans L.len,bot3 q t0q,bot3 c t0c,(i3 tn4).trans t0i,by rw [tin3];exact tn4,ρ2N,⟨seen.push x.born,ck,keepr.trans hr2,A9 _,fun j y hy=>?_⟩,(E'.up.okb mr L.okm).trans mp2,E'.up.oku mr L.okm,nok',back,VL.up ks (Up.mk (fun b hb=>(E'.up.okb b hb).trans (U2.okb b hb)) E'.up.oku (fun b s hb=>E'.up.shp b s (U2.shp b s hb)) (fun _ _ h=>h)) L.keys,VL.up vs (Up.mk (fun b hb=>(E'.up.okb b hb).trans (U2.okb b hb)) E'.up.oku (fun b s hb=>E'.up.shp b s (U2.shp b s hb)) (fun _ _ h=>h)) L.vals,by simpa using L.ml,lf'⟩;rw [contains_push];have hj:=(Bc.1 hy).1;have hmj:=im j y hy;rw [Ck];have hjl:j<ms.length:=by rw [L.ml];simpa using hj
   by_cases hij:i=j
   ·subst hij
    rw [hxi] at hy
    cases hy
    simp [hjl]
   ·rw [if_neg hij,hmj]
    have:y.born≠x.born:=by
     intro hb;have h1:(es.toList.map (·.born))[i]? =some x.born:=by rw [Bn,hxi];rfl
     have h2:(es.toList.map (·.born))[j]? =some x.born:=by rw [Bn,hy];simp [hb]
     exact hij ((List.getElem?_inj (by simpa using hi) st.2).1 (h1.trans h2.symm))
    simp [this]
  -- the round's own code
  refine wp_block (wp_seq (wp_region ?_));have hsize:List.range en.size=0::List.range' 1 etl.length:=by
   rw [←Bt,hen,Br,Dg,List.range'_succ]
  rw [hsize,wpOps_cons];have he0:en[0]? =some e1:=by rw [←Bk,hen];rfl
  have hbe1:e<n:=by have:=hbe e1 (by rw [hen];simp);unfold opB at this;rw [c1] at this;simpa [Ce] using this
  refine qL (o:=e1) (v:=.tuple #[x.key,x.val]) (w':=w2) he0 c3 ?_ ?_
  ·have:execOp a2.eval e1=(do pure (.value (←Instr.entry (a2.eval (.tmp it)))):Sem Next):=by
    obtain ⟨d,o,t,p,f,g⟩:=e1;simp only at c2;subst c2;rfl
   rw [this,hev2]
   have:=run_entry_at (P:=P) w2 r mr ck seen es ck x hr2 mp2 hxm st.2
   simp [this]
  ·rw [c1]
   have ktup:V ok w2 (.tup [kk,vv]) ρ (.tuple #[x.key,x.val]):=by
    simp only [V];refine ⟨_,rfl,?_⟩;simp only [VL];have U0:Up ok w ρ0 ok w2 ρ:=⟨U2.okb,U2.oku,U2.shp,fun _ _ h=>by cases h⟩;exact ⟨_,_,rfl,V.up kk U0 hk2,_,_,rfl,V.up vv U0 hv2,rfl⟩
   have hD: ∀d,some e=some d→d<a2.tmps.size:=by
    intro d hd
    cases hd
    exact Bm hbe1 S2.tm.size
   have R:=(S2.tm.ri).push ktup hD;have hdrop:en.toList.drop 1=etl:=by rw [hen];rfl
   have htail:en.toList.tail=etl:=by rw [hen];rfl
   rw [htail] at q1;refine yV X H hbe (flL ps en.toList) s.t etl 1 hdrop (by rw [(fe a2 (some e) _).1];exact S2.tm.size) I2 R q1 _ (fun a' w' ok' ρ' σ' h' z1 z2 z3 z4 z5 z6=>?_)
   cases z1
   have z4:RI ok' w' ρ' (en.toList.map (·.dst)).reverse σ' s.t a'.tmps:=by rw [hen,BS,Cf,c1];exact z4
   have hsz':n≤a'.tmps.size:=by rw [z5,(fe a2 (some e) _).1];exact S2.tm.size
   have S5:SOk nb C ok' w' ρ' ps n ⟨cx σ' s.t (flL ps en.toList),h3⟩ a':=by
    refine ⟨z3,?_,by rw [z6];exact S2.df.ext I2 z2,Bo S2.nl z2.size⟩
    unfold flL;exact z4.flush hsz' S2.tm.inn S2.tm.low
   refine wp_mono (KR q3 S5) ?_;rintro ex' a6 w6 ⟨rfl,ok6,ρ6,E6,S6⟩;have E26:Ext ok w2 ρ s.h ok6 w6 ρ6 s4.h:=Ext.trans I2 z2 E6
   cases ex with
   |nrm=>cases q5;exact fin ok6 w6 ρ6 a6 E26 S6 rfl
   |ret=>cases q5
   |exit j=>
    obtain ⟨y1,y2⟩:=aB (show bq (Nat.beq j id2) (some s4) none=some s5 from q5)
    cases y2
    have:=A8 y1
    subst this;show (if j=j then _ else _);rw [if_pos rfl];exact fin ok6 w6 ρ6 a6 E26 S6 rfl
end
end
section
variable {nb:Nat} {P:Program} {C:Cx} {run:Run} {kp:Bool}
theorem xC {kr:Kr} {q c:Nat} {ent:List OK} {fl1:List (Nat×Nat)} {id it N:Nat} {ks vs:List AV} {t:Tms} {h:AH} {r:Rs} (e:afC C run kr q c ent fl1 id it N ks vs t h=some r): ∃kp,ahI kp C run kr q c ent fl1 id it N ks vs t h=some r:=by
 unfold afC at e
 cases e1:ahI true C run kr q c ent fl1 id it N ks vs t h with
 |none=>rw [e1] at e;exact ⟨false,e⟩
 |some x=>rw [e1] at e;exact ⟨true,e1.trans e⟩
theorem pC (q c:Nat) (t:Tms):bc (fm q c t) q= .bot∧bc (fm q c t) c= .bot∧(∀i,tin (fm q c t) i=tin t i)∧ ∀i,bc (fm q c t) i=bc t i∨bc (fm q c t) i= .bot:=by
 have set: ∀(t:Tms) (i:Nat),bc (iW t i .bot) i= .bot:=by
  intro t i
  cases h:tin t i with
  |true=>exact eO t i _ h
  |false=>exact iD _ _ (by rw [gM];exact h)
 have other: ∀(t:Tms) (i j:Nat),bc (iW t i .bot) j=bc t j∨bc (iW t i .bot) j= .bot:=by
  intro t i j
  by_cases h:j=i
  ·subst h;exact .inr (set t j)
  ·exact .inl (dP t i _ j h)
 refine ⟨?_,set _ _,fun i=>by unfold fm;rw [gM,gM],fun i=>?_⟩
 ·rcases other (iW t q .bot) c q with h|h
  ·exact h.trans (set t q)
  ·exact h
 ·rcases other (iW t q .bot) c i with h|h
  ·rcases other t q i with h'|h'
   ·exact .inl (h.trans h')
   ·exact .inr (h.trans h')
  ·exact .inr h
theorem arH (X:c7 P C) (H:dB P C run) {ps:List Nat} {n it q c e:Nat} {nx en:Array Oper} (sh:Shape nx en it q c e) (hbn: ∀o∈nx.toList,opB n o=true) (hbe: ∀o∈en.toList,opB n o=true) {id1 id2 jn je:Nat} {rest:Code} {kr:Kr}
 (KR: ∀{s:St} {ex:Ex} {s':St},kr s=some (ex,s')→ ∀{ok:Nat→Prop} {w:World} {ρ:Rho} {a:Act},SOk nb C ok w ρ ps n s a→rest.wp P (j6 nb C ok w ρ ps n s.h ex s') a w)
 {okB:Nat→Prop} {wB:World} {ρB:Rho} {hB:AH} (IB:Inv C okB wB ρB hB) {N r mr ck n0:Nat} (hr:wB.heap.size≤r) {es:Array MapEntry} (st:wA es ck) {ks vs:List AV} {tr:RT} {t0:Tms} (t0q:bc t0 q= .bot) (t0c:bc t0 c= .bot) (t0i:bc t0 it= .pto N 0)
 (okT:aa9 (afZ kp C run kr (bo C en.toList [some e] en.toList.tail) (flL ps en.toList) id2 it t0 n0) ks vs tr=true) (QL:Exit→Act→World→Prop)
 (done: ∀ms s ok w ρ a,(∀m∈ms,m=true)→amn nb C okB wB ρB hB ps n it q c N r mr ck n0 es ks vs tr ms s ok w ρ a→QL (.exit id1) a w):
 ∀(m:Nat) {ms:List Bool} {s:St} {ok:Nat→Prop} {w:World} {ρ:Rho} {a:Act},ms.count false=m→amn nb C okB wB ρB hB ps n it q c N r mr ck n0 es ks vs tr ms s ok w ρ a→
 na P (Code.seq (.region jn nx false) (.seq (.cond (.tmp c) .skip (.exit id1)) (.block id2 (.seq (.region je en false) rest)))) QL a w:=by
 intro m
 induction m using Nat.strongRecOn with
 |_ m ih=>
  intro ms s ok w ρ a hm L;refine lO (an8 X H sh hbn hbe KR IB hr st t0q t0c t0i okT L _ (fun a' w' hall L'=>?_) (fun i s' ok' w' ρ' a' hi L'=>?_))
  ·exact done ms s ok w' ρ a' hall L'
  ·have:=count_set ms i hi
   exact ih _ (by omega) rfl L'
theorem asq (X:c7 P C) (H:dB P C run) {ps:List Nat} {n it q c e:Nat} {nx en:Array Oper} (sh:Shape nx en it q c e) (hbn: ∀o∈nx.toList,opB n o=true) (hbe: ∀o∈en.toList,opB n o=true) {id1 id2 jn je:Nat} {rest:Code} {kr:Kr}
 (KR: ∀{s:St} {ex:Ex} {s':St},kr s=some (ex,s')→ ∀{ok:Nat→Prop} {w:World} {ρ:Rho} {a:Act},SOk nb C ok w ρ ps n s a→rest.wp P (j6 nb C ok w ρ ps n s.h ex s') a w)
 {okB:Nat→Prop} {wB:World} {ρB:Rho} {hB:AH} (IB:Inv C okB wB ρB hB) {N r mr ck:Nat} (hr:wB.heap.size≤r) {es:Array MapEntry} (st:wA es ck) {ks vs:List AV}
 {t:Tms} {h:AH} {T':Tms} {h':AH} (eG:ahI kp C run kr q c (bo C en.toList [some e] en.toList.tail) (flL ps en.toList) id2 it N ks vs t h=some (.st T' h'))
 {ok:Nat→Prop} {w:World} {ρ:Rho} {a:Act} (S:SOk nb C ok w ρ ps n ⟨t,h⟩ a) (B:Ext okB wB ρB hB ok w ρ h) (tq:bc t q= .bot) (tc:bc t c= .bot) (nam:ρ N=some r) (itr:w.heap[r]? =some (.mapIter (some mr) ck #[] ck))
 (mp:w.heap[mr]? =some (.map es ck)) (okm:ok mr) (nok: ¬ok r) (free: ∀m,ab h m≠none→ρ m≠some r) (keys:VL ok w ks ρ0 (es.toList.map (·.key))) (vals:VL ok w vs ρ0 (es.toList.map (·.val))):
 (Code.block id1 (.loop (.seq (.region jn nx false) (.seq (.cond (.tmp c) .skip (.exit id1)) (.block id2 (.seq (.region je en false) rest)))))).wp P (fun e a' w'=>e= .normal∧ ∃ok' ρ',Ext okB wB ρB hB ok' w' ρ' h'∧SOk nb C ok' w' ρ' ps n ⟨T',h'⟩ a') a w:=by
 obtain ⟨e1,eG⟩:=aB eG;obtain ⟨tr,e2,eG⟩:=ai eG;obtain ⟨e3,eG⟩:=aB eG;have ti:=mP e1;have tn:tin t it=true:=by
  by_cases hh:tin t it=true
  ·exact hh
  ·have hh:tin t it=false:=by simpa using hh
   rw [iD _ _ hh] at ti;cases ti
 have hkl:ks.length=es.size:=by have:=cm keys;simp at this;omega
 refine wp_block (na.wp (arH X H sh hbn hbe KR IB hr st tq tc ti e3 _ (fun ms s ok w ρ a hall L=>?_) _ rfl (ms:=List.replicate ks.length false) (s:=⟨t,h⟩) ⟨S,B,by show h.length=ag h;rw [ah],tq,tc,ti,tn,nam,⟨#[],ck,itr,A9 _,fun i x hx=>?_⟩,mp,okm,nok,free,keys,vals,by rw [CA,hkl],aaD e2⟩))
 ·have hl:=xd L.leaf hall
  rw [hl] at eG
  cases eG
  show (if id1=id1 then _ else _);rw [if_pos rfl];exact ⟨rfl,ok,ρ,L.B,L.S⟩
 ·have hi:=(Bc.1 hx).1
  rw [List.getElem?_replicate,if_pos (by rw [hkl];simpa using hi)]
  simp
theorem aij {a b:Code} {d:RmP} (e:abc C a b=some d): ∃i ops id jn nx je en rest pre lst ti kt et,
 a= .region i ops false∧b= .block id (.loop (.seq (.region jn nx false) (.seq (.cond (.tmp d.c) .skip (.exit id)) (.block d.id2 (.seq (.region je en false) rest)))))∧
 ops.toList=pre++[lst]∧d.ops=ops.toList∧lst.dst=some d.it∧lst.op= .range d.ty d.x∧lst.guard=none∧C.ty d.ty=some ti∧ti.kind= .map kt et∧d.ens=en.toList∧Shape nx en d.it d.q d.c d.e:=by
 unfold abc at e
 split at e
 ·rename_i ri ops rd rc n1 n2 e1 entl id2 hl
  unfold ak9 at hl
  split at hl
  ·rename_i id jn nx cc id1 id2' je en rest
   obtain ⟨z1,z2⟩:=aB hl;have z1:=A8 z1;subst z1;simp only [Option.some.injEq,Prod.mk.injEq] at z2;obtain ⟨y1,y2,y3,y4,y5⟩:=z2;subst y1 y2 y5
   split at e
   ·rename_i lst q it1 c1 q1 ee it2 g1 g2 g3 g4
    split at e
    ·rename_i it ty x g5
     split at e
     ·rename_i ti g6
      split at e
      ·rename_i kt et g7
       obtain ⟨x1,x2⟩:=aB e
       cases x2
       simp only [Ba,Bool.not_eq_true'] at x1;obtain ⟨⟨⟨u1,u2⟩,u3,u4⟩,u5,u6⟩:=x1;have u1:=A8 u1;have u2:=A8 u2;have u3:=A8 u3;have u4:=A8 u4;subst u1 u2 u3 u4;have g1':ops.toList=ops.toList.dropLast++[lst]:=by
        obtain ⟨hne,hl⟩:=List.getLast?_eq_some_iff.1 g1;rw [hl];simp
       have r1:lst.dst=some it∧lst.op= .range ty x∧lst.guard=none:=by
        unfold afP at g5
        split at g5
        ·rename_i h1 h2 h3;cases g5;exact ⟨h1,h2,h3⟩
        ·cases g5
       have r2:n1.dst=some q∧n1.op= .next (.tmp it) false∧n1.guard=none:=by
        unfold ao9 at g2
        split at g2
        ·rename_i h1 h2 h3;cases g2;exact ⟨h1,h2,h3⟩
        ·cases g2
       have r3:n2.dst=some cc∧n2.op= .extract (.tmp q) 0∧n2.guard=none:=by
        unfold aue at g3
        split at g3
        ·rename_i h1 h2 h3;cases g3;exact ⟨h1,h2,h3⟩
        ·cases g3
       have r4:e1.dst=some ee∧e1.op= .entry (.tmp it)∧e1.guard=none:=by
        unfold aeT at g4
        split at g4
        ·rename_i h1 h2 h3;cases g4;exact ⟨h1,h2,h3⟩
        ·cases g4
       refine ⟨ri,ops,id,jn,nx,je,en,rest,ops.toList.dropLast,lst,ti,kt,et,rfl,rfl,g1',rfl,r1.1,r1.2.1,r1.2.2,g6,g7,y4.symm,⟨⟨n1,n2,?_,r2.1,r2.2.1,r2.2.2,r3.1,r3.2.1,r3.2.2⟩,⟨e1,entl,y4,r4.1,r4.2.1,r4.2.2⟩,?_,?_⟩⟩
       ·apply Dn;exact y3
       ·intro h;have h:it=q:=h;rw [h,Bs] at u5;cases u5
       ·intro h;have h:it=cc:=h;rw [h,Bs] at u6;cases u6
      ·cases e
     ·cases e
    ·cases e
   ·cases e
  ·cases hl
 ·cases e
theorem aoB {ti:TI} {t kt et:Nat} (X:c7 P C) (h:C.ty t=some ti) (hk:ti.kind= .map kt et):P.underlying t=some (.map kt et):=by
 have:=(X.ty _ _ h).und
 rw [hk] at this;exact this
theorem axY (X:c7 P C) (H:dB P C run) {ps:List Nat} {n:Nat} {a b:Code} {d:RmP} (hd:abc C a b=some d) {kr:Kr} {s:St} {ex:Ex} {s':St}
 (e:kRm C run (bo C d.ops [] d.ops.dropLast) (od (d.ops.dropLast.map (·.dst)).reverse d.x) (flL ps d.ops) d.q d.c (bo C d.ens [some d.e] d.ens.tail) (flL ps d.ens) d.id2 d.it kr s=some (ex,s')) (hb:dI n (.seq a b)=true)
 (KR: ∀{id jn nx c id1 id2 je en rest},b= .block id (.loop (.seq (.region jn nx false) (.seq (.cond (.tmp c) .skip (.exit id1)) (.block id2 (.seq (.region je en false) rest)))))→ ∀{s:St} {ex:Ex} {s':St},kr s=some (ex,s')→ ∀{ok:Nat→Prop} {w:World} {ρ:Rho} {a:Act},SOk nb C ok w ρ ps n s a→rest.wp P (j6 nb C ok w ρ ps n s.h ex s') a w)
 {ok:Nat→Prop} {w:World} {ρ:Rho} {act:Act} (S:SOk nb C ok w ρ ps n s act):(Code.seq a b).wp P (j6 nb C ok w ρ ps n s.h ex s') act w:=by
 obtain ⟨i,ops,id,jn,nx,je,en,rest,pre,lst,ti,kt,et,rfl,hbb,hops,hdo,l1,l2,l3,hti,hki,hde,sh⟩:=aij hd;have KR5:=@KR id jn nx d.c id d.id2 je en rest hbb;subst hbb;have hb:(dI n (.region i ops false)&&dI n (.block id (.loop (.seq (.region jn nx false) (.seq (.cond (.tmp d.c) .skip (.exit id)) (.block d.id2 (.seq (.region je en false) rest)))))))=true:=hb;simp only [dI,Ba] at hb;obtain ⟨hb1,hb2,_,hb3,_⟩:=hb;have hb1: ∀o∈ops.toList,opB n o=true:=BG.1 hb1;have hb2: ∀o∈nx.toList,opB n o=true:=BG.1 hb2;have hb3: ∀o∈en.toList,opB n o=true:=BG.1 hb3;have ht:=aoB X hti hki;obtain ⟨h1,e5⟩:=kT (show dr (wu C run s.t (bo C d.ops [] d.ops.dropLast) (anE C run kr (od (d.ops.dropLast.map (·.dst)).reverse d.x) (flL ps d.ops) d.q d.c (bo C d.ens [some d.e] d.ens.tail) (flL ps d.ens) d.id2 d.it s.t) [] s.h)=some (ex,s') from e);subst h1;have hdl:d.ops.dropLast=pre:=by rw [hdo,hops];simp
 rw [hdl,hdo,hde] at e5;refine wp_seq (wp_region ?_);have hsize:List.range ops.size=List.range' 0 pre.length++[pre.length]:=by
  rw [←Bt,hops,A7,List.length_singleton,List.range_succ,Dg]
 rw [hsize];refine afv X H hb1 s.t pre [lst] 0 (by rw [BF];exact hops) S.tm.size S.inv S.tm.ri e5 _ _ (fun a' w' ok' ρ' σ' h' q1 q2 q3 q4 q5 q6=>?_);rw [wpOps_cons];have hl0:ops[pre.length]? =some lst:=by rw [←Bk,hops];simp
 have q4':RI ok' w' ρ' ((pre.map (·.dst)).reverse) σ' s.t a'.tmps:=by simpa using q4
 have hx:=q4'.operand q3 d.x;have hit:d.it<n:=by
  have:=hb1 lst (by rw [hops];simp)
  unfold opB at this;rw [l1] at this;simpa [Ce] using this
 have hsz:n≤a'.tmps.size:=by rw [q5];exact S.tm.size
 have free1: ∀m,ab (av h' [none]) m≠none→cG ρ' h'.length w'.heap.size m≠some w'.heap.size:=by
  intro m hm' e;have hlt:=cJ hm';rw [fY] at hlt;have hlt:m<h'.length+1:=hlt
  by_cases hmm:m=h'.length
  ·subst hmm
   refine hm' ?_;rw [cN,if_neg (by omega),C8];rfl
  ·unfold cG at e
   rw [if_neg hmm] at e
   have:=(q3.dom m _ e).2
   omega
 -- what comes of a map's cell
 have go: ∀(mr:Nat) (es:Array MapEntry) (ck:Nat),a'.eval d.x= .map (some mr)→w'.heap[mr]? =some (.map es ck)→wA es ck→
  (∀(w1:World) (ρ1:Rho) (a1:Act),w1=w'.alloc (.mapIter (some mr) ck #[] ck)→ρ1=cG ρ' h'.length w'.heap.size→Inv C ok' w1 ρ1 (av h' [none])→Ext ok' w' ρ' h' ok' w1 ρ1 (av h' [none])→
   SOk nb C ok' w1 ρ1 ps n ⟨fm d.q d.c (cx (.pto (ag h') 0::σ') s.t (flL ps ops.toList)),av h' [none]⟩ a1→
   ∃kp ok2 t2 h2 ks vs,ahI kp C run kr d.q d.c (bo C en.toList [some d.e] en.toList.tail) (flL ps en.toList) d.id2 d.it (ag h') ks vs t2 h2=some (.st s'.t s'.h)∧SOk nb C ok2 w1 ρ1 ps n ⟨t2,h2⟩ a1∧Ext ok' w' ρ' h' ok2 w1 ρ1 h2∧
    bc t2 d.q= .bot∧bc t2 d.c= .bot∧ok2 mr∧ ¬ok2 w'.heap.size∧(∀m,ab h2 m≠none→ab (av h' [none]) m≠none)∧VL ok2 w1 ks ρ0 (es.toList.map (·.key))∧VL ok2 w1 vs ρ0 (es.toList.map (·.val)))→
  wpOp P ops (Exit.then ((Code.block id (.loop (.seq (.region jn nx false) (.seq (.cond (.tmp d.c) .skip (.exit id)) (.block d.id2 (.seq (.region je en false) rest)))))).wp P (j6 nb C ok w ρ ps n s.h .nrm s')) (j6 nb C ok w ρ ps n s.h .nrm s')) pre.length
   (wpOps P ops (Exit.then ((Code.block id (.loop (.seq (.region jn nx false) (.seq (.cond (.tmp d.c) .skip (.exit id)) (.block d.id2 (.seq (.region je en false) rest)))))).wp P (j6 nb C ok w ρ ps n s.h .nrm s')) (j6 nb C ok w ρ ps n s.h .nrm s')) []) a' w':=by
  intro mr es ck hev hcell st F;obtain ⟨w1,hw1⟩: ∃w1,w'.alloc (.mapIter (some mr) ck #[] ck)=w1:=⟨_,rfl⟩;refine qL (o:=lst) (v:=.pointer (some ⟨w'.heap.size,0,none⟩)) (w':=w1) hl0 l3 ?_ ?_
  ·have:execOp a'.eval lst=(do pure (.value (←Instr.range d.ty (a'.eval d.x))):Sem Next):=by
    obtain ⟨dd,o,t,p,f,g⟩:=lst;simp only at l2;subst l2;rfl
   rw [this,hev]
   have:=run_range_map (P:=P) w' d.ty kt et mr es ck ht hcell
   rw [hw1] at this
   simp [this]
  ·rw [l1]
   have hh:w1.heap=w'.heap.push (.mapIter (some mr) ck #[] ck):=by rw [←hw1];rfl
   have ho:w1.os=w'.os∧w1.tape=w'.tape∧w1.output=w'.output:=by rw [←hw1];exact ⟨rfl,rfl,rfl⟩
   obtain ⟨E1,I1⟩:=Ext.dead q3 (w':=w1) hh ho.1 ho.2.1 ho.2.2;have vp:V ok' w1 (.pto (ag h') 0) (cG ρ' h'.length w'.heap.size) (.pointer (some ⟨w'.heap.size,0,none⟩)):=by
    rw [ah];simp only [V];exact ⟨w'.heap.size,by simp [cG],rfl⟩
   have R1:=(q4'.up E1.up).push (D:=some d.it) (a:=a') vp (fun x hx=>by cases hx;omega)
   have R1:RI ok' w1 (cG ρ' h'.length w'.heap.size) (ops.toList.map (·.dst)).reverse (.pto (ag h') 0::σ') s.t (a'.put (some d.it) (.pointer (some ⟨w'.heap.size,0,none⟩))).tmps:=by
    rw [hops,Co,List.reverse_append,List.map_singleton,l1];exact R1
   have T1:TOk ok' w1 (cG ρ' h'.length w'.heap.size) ps n (cx (.pto (ag h') 0::σ') s.t (flL ps ops.toList)) (a'.put (some d.it) (.pointer (some ⟨w'.heap.size,0,none⟩))).tmps:=R1.flush (n:=n) (by rw [(fe a' (some d.it) _).1];exact hsz) S.tm.inn S.tm.low
   obtain ⟨f1,f2,f3,f4⟩:=pC d.q d.c (cx (.pto (ag h') 0::σ') s.t (flL ps ops.toList));have S1:SOk nb C ok' w1 (cG ρ' h'.length w'.heap.size) ps n ⟨fm d.q d.c (cx (.pto (ag h') 0::σ') s.t (flL ps ops.toList)),av h' [none]⟩ (a'.put (some d.it) (.pointer (some ⟨w'.heap.size,0,none⟩))):=by
    refine ⟨I1,⟨T1.size,fun i hi=>T1.inn i (by rw [←f3];exact hi),T1.low,fun i=>?_⟩,by
     show Marks nb ok' w1 _ _ a'.defers;rw [q6];exact (S.df.ext S.inv q2).ext q3 E1,Bo S.nl (Bo q2.size E1.size)⟩
    rcases f4 i with h|h
    ·show V _ _ (bc (fm d.q d.c _) i) _ _
     rw [h];exact T1.get i
    ·show V _ _ (bc (fm d.q d.c _) i) _ _
     rw [h];simp only [V]
   obtain ⟨kp,ok2,t2,h2,ks,vs,g1,g2,g3,g4,g5,g6,g7,g8,g9,g10⟩:=F w1 _ _ hw1.symm rfl I1 E1 S1;have hmr:mr<w'.heap.size:=by
    rcases BN mr w'.heap.size with l|l
    ·exact l
    ·rw [CN l] at hcell;cases hcell
   refine wp_mono (asq X H sh hb2 hb3 KR5 q3 (A9 _) st g1 g2 g3 g4 g5 (by rw [ah];simp [cG]) (by rw [hh];simp) (by rw [hh,CX,if_neg (by omega)];exact hcell) g6 g7 (fun m hm e=>?_) g9 g10) ?_
   ·exact free1 m (g8 m hm) e
   ·rintro ee a2 w2 ⟨rfl,ok3,ρ3,E3,S3⟩
    exact ⟨rfl,ok3,ρ3,Ext.trans S.inv q2 E3,S3⟩
 unfold anE at q1
 split at q1
 ·--a map that nobody writes
  rename_i ks vs hev
  rw [hev] at hx;simp only [V] at hx;obtain ⟨mr,es,ck,x1,x2,x3,x4,x5,x6⟩:=hx;refine go mr es ck x2 x3 x6 (fun w1 ρ1 a1 hw1 hρ1 I1 E1 S1=>?_);obtain ⟨f1,f2,f3,f4⟩:=pC d.q d.c (cx (.pto (ag h') 0::σ') s.t (flL ps ops.toList));obtain ⟨kp,q1⟩:=xC q1;refine ⟨kp,ok',_,_,ks,vs,q1,S1,E1,f1,f2,x1,fun hk=>?_,fun _ h=>h,VL.up ks E1.up.pure x4,VL.up vs E1.up.pure x5⟩
  have:=q3.okb _ hk
  omega
 ·--one of the small heap's:it is laid still
  rename_i bb hev
  obtain ⟨blk,y1,y2⟩:=ai q1
  cases blk with
  |cells cs=>cases y2
  |rows z ll y=>cases y2
  |map ks vs=>
  have y2:bq (and (ltL 0 ks) (ltL 0 vs)) _ none=some (Rs.st s'.t s'.h):=y2;obtain ⟨y3,y4⟩:=aB y2;rw [Ba] at y3;rw [hev] at hx;simp only [V] at hx;obtain ⟨mr,x1,x2⟩:=hx;obtain ⟨mr',z1,z2,es,ck,z3,z4,z5,z6⟩:=q3.live bb _ y1;rw [x1] at z1
  cases z1
  refine go mr es ck x2 z3 z6 (fun w1 ρ1 a1 hw1 hρ1 I1 E1 S1=>?_);obtain ⟨f1,f2,f3,f4⟩:=pC d.q d.c (cx (.pto (ag h') 0::σ') s.t (flL ps ops.toList));have hbl:=cJ (show ab h' bb≠none by rw [y1];simp);have hb1:ab (av h' [none]) bb=some (.map ks vs):=by rw [cN,if_pos hbl];exact y1
  obtain ⟨ok2,r2,es2,ck2,St,E2,I2⟩:=ahC I1 hb1 y3.1 y3.2;have nb:ρ1 bb=some mr:=by rw [hρ1];unfold cG;rw [if_neg (by omega)];exact x1
  have hr2:r2=mr:=by have:=St.nam;rw [nb] at this;cases this;rfl
  subst hr2;have hcell1:w1.heap[r2]? =some (.map es ck):=by
   rw [hw1];show (w'.heap.push _)[r2]? =_
   have:=(q3.dom bb r2 x1).2
   rw [CX,if_neg (by omega)];exact z3
  have hes:es2=es:=by have:=St.cell;rw [hcell1] at this;cases this;rfl
  subst hes;obtain ⟨kp,y4⟩:=xC y4;refine ⟨kp,ok2,_,_,ks,vs,y4,⟨I2,⟨S1.tm.size,fun i hi=>S1.tm.inn i (by rw [mE] at hi;exact hi),S1.tm.low,fun i=>?_⟩,S1.df.ext I1 E2,Bo S1.nl E2.size⟩,Ext.trans q3 E1 E2,?_,?_,St.isok,fun hk=>?_,fun m hm=>?_,St.keys,St.vals⟩
  ·show V ok2 w1 (bc (tE _ _) i) ρ1 _
   rw [jd]
   cases tin (fm d.q d.c (cx (.pto (ag h') 0::σ') s.t (flL ps ops.toList))) i with
   |false=>simp only [aE,V]
   |true=>exact V.frz St _ (S1.tm.get i)
  ·rw [jd,f1];cases tin _ _<;>rfl
  ·rw [jd,f2];cases tin _ _<;>rfl
  ·rcases E2.oknew _ hk with hk|hk|⟨m,hm,em⟩
   ·have:=q3.okb _ hk;omega
   ·rw [hw1] at hk
    have:(w'.alloc (.mapIter (some r2) ck #[] ck)).heap.size=w'.heap.size+1:=by show (w'.heap.push _).size=_;simp
    omega
   ·rw [hρ1] at em;exact free1 m hm em
  ·rw [abi] at hm
   split at hm
   ·exact absurd rfl hm
   ·intro c;rw [c] at hm;exact hm rfl
 ·cases q1
end
section
variable {nb:Nat} {P:Program} {C:Cx} {run:Run} {lp:Lp}
theorem ait {n:Nat} {row:String} {args:Array Value} {w:World} {R:Value→World→Prop} (h:Rows P row args w R):RowsIn Fence.wide n P row args w R:=
 fun c cs _=>let ⟨v,w',r,s⟩:=h c cs;⟨v,w',r,stepsIn_wide.2 s⟩
theorem pE {ops:Array Oper} {Q:Exit→Act→World→Prop} (l n:Nat) (hc: ∀o∈ops.toList,aaw o=true) (hQ: ¬LetsOut Q): ∀(idx:List Nat) (a:Act) (w:World),wpOps P ops Q idx a w→wpOpsIn (Fence.wide.inRound l) n P ops Q idx a w
 |[],a,w,h=>h
 |i::rest,a,w,h=>by
  have IH:=pE l n hc hQ rest;unfold wpOps at h;unfold wpOpsIn
  cases ho:ops[i]? with
  |none=>rw [ho] at h;exact IH a w h
  |some o=>
   rw [ho] at h;simp only at h ⊢
   by_cases hw:Region.wanted o (yielded ops a.tmps)=true
   ·rw [if_pos hw] at h ⊢
    have hm:o∈ops.toList:=by
     have:=Array.mem_of_getElem? ho
     simpa using this
    have hd: ∀c,o.op≠ .defer c:=by
     intro c e
     have:=hc o hm
     unfold aaw at this;rw [e] at this
     cases this
    rcases h with h|h
    ·refine ⟨fun _ _=>trivial,?_⟩
     show o.uponIn _ n P a _ Q ((o.semAt (some l) a.eval).run P w);rw [Oper.semAt_some l _ _ hd];have h:o.upon P a (wpOps P ops Q rest) Q ((execOp a.eval o).run P w):=h
     revert h
     generalize (execOp a.eval o).run P w=r
     intro h;unfold Oper.upon at h
     split at h
     ·exact IH _ _ h
     ·exact IH _ _ h
     ·exact IH _ _ h
     ·refine ⟨fun h=>(by cases h),CallsIn.inRound l ((callsIn_wide.2 h).mono fun e w2 hh=>?_)⟩
      cases e with
      |returned v=>exact IH _ _ hh
      |panicked ch=>exact hh
      |outgrown=>exact hh
     ·refine ⟨fun h=>(by cases h),?_⟩
      have:=(ait (n:=n-1) h).mono fun v w2 hh=>IH _ _ hh
      exact this
     ·exact h
     ·exact h.elim
    ·exact absurd h.2 hQ
   ·rw [if_neg hw] at h ⊢
    exact ⟨fun _ _=>trivial,IH _ _ h⟩
theorem abK {ok:Nat→Prop} {w:World} {ρ:Rho} {ps:List Nat} {n:Nat} {h:AH} {ex:Ex} {s':St}: ¬LetsOut (j6 nb C ok w ρ ps n h ex s'):=by
 rintro ⟨a,w',he,_⟩
 cases ex<;>cases he
theorem zL (X:c7 P C) (H:dB P C run) (l m:Nat): ∀(c:Code),te C c=true→ ∀{ps:List Nat} {n:Nat} {s:St} {ex:Ex} {s':St},kx C run lp (comp C ps c) s=some (ex,s')→dI n c=true→ ∀{ok:Nat→Prop} {w:World} {ρ:Rho} {a:Act},SOk nb C ok w ρ ps n s a→
 c.wpIn (Fence.wide.inRound l) m P (j6 nb C ok w ρ ps n s.h ex s') a w
 | .region id ops d,hc,ps,n,s,ex,s',e,hb,ok,w,ρ,a,S=>by
   have hb2: ∀o∈ops.toList,opB n o=true:=BG.1 hb;have hc:and (ops.toList.all aaw) (bq d (fy C ops) true)=true:=hc;rw [Ba] at hc;have hc1: ∀o∈ops.toList,aaw o=true:=BG.1 hc.1;have post: ∀a' w' ok' ρ',Ext ok w ρ s.h ok' w' ρ' s'.h→Inv C ok' w' ρ' s'.h→TOk ok' w' ρ' ps n s'.t a'.tmps→a'.defers=a.defers→j6 nb C ok w ρ ps n s.h .nrm s' .normal a' w':=
    fun a' w' ok' ρ' q1 q2 q3 q4=>⟨rfl,ok',ρ',q1,q2,q3,by rw [q4];exact S.df.ext S.inv q1,Bo S.nl q1.size⟩
   cases d with
   |false=>
    have e:dr (gW C run (flL ps ops.toList) s.t (bo C ops.toList [] ops.toList) [] s.h)=some (ex,s'):=e;obtain ⟨h1,e2⟩:=kT e;subst h1;exact wpIn_region (pE l m hc1 abK _ _ _ (wS X H hb2 S.inv S.tm e2 _ post))
   |true=>
    have hok:fy C ops=true:=hc.2;have e:kx C run lp (bq (fy C ops) (.draw (bZ C ops.toList (cr ops.toList) 0 (bo C ops.toList [] ops.toList)) (bX C ops) (flL ps ops.toList)) (abu C ps ops)) s=some (ex,s'):=e;rw [hok,aA] at e;obtain ⟨h1,e2⟩:=kT (show dr (jM C run (flL ps ops.toList) s.t (bZ C ops.toList (cr ops.toList) 0 (bo C ops.toList [] ops.toList)) (bX C ops) s.h)=some (ex,s') from e);subst h1;refine wpIn_region_draw fun t=>pE l m hc1 abK _ _ _ ?_
    have:=qo X H hok hb2 S.inv S.tm e2 _ post
    simp only [Region.schedule,X.mixed,Bool.true_or,if_true];exact wpAny_sound ops.size t _ a _ this
 | .block id b,hc,ps,n,s,ex,s',e,hb,ok,w,ρ,a,S=>by
   obtain ⟨⟨ex1,s1⟩,e1,e2⟩:=ai (show au (kx C run lp (comp C ps b) s) (aqO id)=some (ex,s') from e);refine wpIn_block (wpIn_mono (zL X H l m b hc e1 hb S) ?_);rintro e a1 w1 ⟨rfl,ok1,ρ1,E1,S1⟩
   cases ex1 with
   |nrm=>cases e2;exact ⟨rfl,ok1,ρ1,E1,S1⟩
   |ret=>cases e2;exact ⟨rfl,ok1,ρ1,E1,S1⟩
   |exit i=>
    have e2:bq (Nat.beq i id) (some (.nrm,s1)) (some (.exit i,s1))=some (ex,s'):=e2;show (if i=id then _ else _)
    cases hi:Nat.beq i id with
    |true=>
     rw [hi] at e2;cases e2
     rw [if_pos (A8 hi)];exact ⟨rfl,ok1,ρ1,E1,S1⟩
    |false=>
     rw [hi] at e2;cases e2
     rw [if_neg (fun c=>by rw [c,Bs] at hi;cases hi)]
     exact ⟨rfl,ok1,ρ1,E1,S1⟩
structure Frn (ok:Nat→Prop) (w:World) (ρ:Rho) (h:AH) (r:Nat):Prop where
 lt:r<w.heap.size
 nok: ¬ok r
 free: ∀n,ab h n≠none→ρ n≠some r
theorem Frn.ext {ok:Nat→Prop} {w:World} {ρ:Rho} {h:AH} {ok':Nat→Prop} {w':World} {ρ':Rho} {h':AH} {r:Nat} (f:Frn ok w ρ h r) (I:Inv C ok w ρ h) (E:Ext ok w ρ h ok' w' ρ' h'):Frn ok' w' ρ' h' r∧w'.heap[r]? =w.heap[r]? :=by
 refine ⟨⟨Bm f.lt E.size,fun hk=>?_,fun n hn e=>?_⟩,E.keep r f.lt f.free⟩
 ·rcases E.oknew r hk with hk|hk|⟨n,hn,en⟩
  ·exact f.nok hk
  ·have:=f.lt;omega
  ·exact f.free n hn en
 ·rcases E.rnew n r e with e1|⟨_,⟨k,hk,ek⟩|hs⟩
  ·exact f.free n (E.alive n (I.dom n r e1).1 hn) e1
  ·exact f.free k hk ek
  ·have:=f.lt;omega
theorem Ext.att {ok:Nat→Prop} {w w':World} {ρ:Rho} {h:AH} (I:Inv C ok w ρ h) (G:aaK w w'):Ext ok w ρ h ok w' ρ h∧Inv C ok w' ρ h∧ ∀r,w.heap.size≤r→r<w'.heap.size→Frn ok w' ρ h r:=by
 have U:Up ok w ρ ok w' ρ:=by
  refine ⟨fun r hr=>G.keep r (I.okb r hr),fun _ h=>h,fun r s hs=>?_,fun _ _ h=>h⟩;rw [eL (G.keep r ?_)];exact hs;rcases BN r w.heap.size with l|l
  ·exact l
  ·simp [World.shape?,CN l] at hs
 refine ⟨⟨U,G.size,G.os,G.tape,G.output,A9 _,fun r hr _=>G.keep r hr,fun _ h=>.inl h,fun _ _ h=>h,fun _ _ h=>.inl h⟩,⟨fun r hr=>Bm (I.okb r hr) G.size,fun n r e=>⟨(I.dom n r e).1,Bm (I.dom n r e).2 G.size⟩,fun n b e=>?_,I.inj,I.aba U⟩,fun r h1 h2=>⟨h2,fun hk=>absurd (I.okb _ hk) (Nat.not_lt.2 h1),fun n _ e=>absurd (I.dom n _ e).2 (Nat.not_lt.2 h1)⟩⟩;obtain ⟨r,h1,h2,h3⟩:=I.live n b e;exact ⟨r,h1,h2,h3.up U (G.keep r (I.dom n r h1).2)⟩
theorem Ext.grow {ok:Nat→Prop} {w:World} {ρ:Rho} {h:AH} (I:Inv C ok w ρ h) (o:Obj):Ext ok w ρ h ok (w.alloc o) ρ h∧Inv C ok (w.alloc o) ρ h∧Frn ok (w.alloc o) ρ h w.heap.size:=by
 obtain ⟨h1,h2,h3⟩:=Ext.att I (aaK.alloc w o);exact ⟨h1,h2,h3 _ (A9 _) (by show _<(w.heap.push o).size;simp)⟩
theorem Ext.oG {okB:Nat→Prop} {wB:World} {ρB:Rho} {hB:AH} {ok:Nat→Prop} {w:World} {ρ:Rho} {h:AH} {r:Nat} (IB:Inv C okB wB ρB hB) (B:Ext okB wB ρB hB ok w ρ h) (I:Inv C ok w ρ h) (f:Frn ok w ρ h r) (hr:wB.heap.size≤r) (hs:w.shape? r=none) (o:Obj):
 Ext okB wB ρB hB ok (w.putObj r o) ρ h∧Inv C ok (w.putObj r o) ρ h∧Up ok w ρ ok (w.putObj r o) ρ∧(w.putObj r o).heap.size=w.heap.size∧(∀k,k≠r→(w.putObj r o).heap[k]? =w.heap[k]?):=by
 have hs':(w.putObj r o).heap.size=w.heap.size:=by simp [World.putObj]
 have hk: ∀k,k≠r→(w.putObj r o).heap[k]? =w.heap[k]? :=fun k hk=>World.putObj_heap_other hk
 obtain ⟨U,I2⟩:=pw I hs' hk hs f.nok f.free;exact ⟨mZ IB B hr U hs' hk rfl rfl rfl,I2,U,hs',hk⟩
theorem Frn.oG {ok:Nat→Prop} {w w':World} {ρ:Rho} {h:AH} {r:Nat} (f:Frn ok w ρ h r) (hs:w'.heap.size=w.heap.size):Frn ok w' ρ h r:=⟨by rw [hs];exact f.lt,f.nok,f.free⟩
theorem awK (X:c7 P C) (H:dB P C run) {f:Operand} {pa:Array Tmp} {assign body:Code} {ps:List Nat} {n:Nat} {s:St} {ex:Ex} {s':St} (e:kx C run lp (comp C ps (.rangeFunc f pa assign body)) s=some (ex,s')) (hb:dI n (.rangeFunc f pa assign body)=true)
 {ok:Nat→Prop} {w:World} {ρ:Rho} {a:Act} (S:SOk nb C ok w ρ ps n s a):(Code.rangeFunc f pa assign body).wp P (j6 nb C ok w ρ ps n s.h ex s') a w:=by
 have hb2:(dI n assign&&dI n body)=true:=hb;rw [Ba] at hb2;unfold comp at e
 split at e
 case h_2=>cases e
 rename_i x hx
 cases hcalm:and (te C assign) (te C body) with
 |false=>rw [hcalm] at e;cases e
 |true=>
 rw [hcalm,aA] at e;rw [Ba] at hcalm;have e:kRf C (od [] f) x (kx C run lp (comp C ps assign)) (kx C run lp (comp C ps body)) s=some (ex,s'):=e
 generalize hA:kx C run lp (comp C ps assign)=asg at e
 generalize hB:kx C run lp (comp C ps body)=bdy at e
 have hv:=S.tm.ri.operand S.inv f;obtain rfl:pa= #[x]:=by
  apply Dn;rw [hx]
 unfold kRf at e
 split at e
 case h_2=>cases e
 rename_i g first hg
 rw [hg] at hv
 split at e
 case h_2=>cases e
 rename_i q hq
 split at e
 case h_2=>cases e
 rename_i xs hxs
 obtain ⟨h',e1,e2⟩:=ai e
 cases e2
 obtain ⟨eg,iter⟩:=X.sq g q hq;simp only [V] at hv;obtain ⟨uf,uc,hf,v1,v2⟩:=hv;obtain rfl:uc= #[]:=by
  simp only [VL] at v2;exact Dn v2
 refine (wpIn_wide (n:=0)).1 (wpIn_rangeFunc fun fn _=>?_);obtain ⟨rec,hrec⟩: ∃rec:LoopState→Option Code→Loop,rec=fun st pe=>{state:=st,pending:=pe,fn,tmps:=a.tmps,params:= #[x],assign,body,defers:=w.heap.size}:=⟨_,rfl⟩
 obtain ⟨E1,I1,F1⟩:=Ext.grow S.inv (.deferred (some []));obtain ⟨E2,I2,F2⟩:=Ext.grow I1 (.loop (rec .ready none));have F1':=F1.ext I1 E2;obtain ⟨W1,hW1⟩: ∃W1,(w.alloc (.deferred (some []))).alloc (.loop (rec .ready none))=W1:=⟨_,rfl⟩;rw [hW1] at E2 I2 F2 F1';have sz:(w.alloc (.deferred (some []))).heap.size=w.heap.size+1:=World.size_alloc _ _;rw [sz] at F2;have hL1:W1.heap[w.heap.size+1]? =some (.loop (rec .ready none)):=by
  rw [←hW1];have:=World.alloc_heap_new (w.alloc (.deferred (some []))) (.loop (rec .ready none));rwa [sz] at this
 have hD1:W1.heap[w.heap.size]? =some (.deferred (some [])):=F1'.2.trans (World.alloc_heap_new w _);have E12:=Ext.trans S.inv E1 E2
 -- between two rounds
 let J:Nat→List Nat→World→Prop:=fun k Fs W=>∃ok' ρ' hk,rfA asg bdy x s.t (xs.drop k) hk=some h'∧Ext ok w ρ s.h ok' W ρ' hk∧Inv C ok' W ρ' hk∧W.heap[w.heap.size+1]? =some (.loop (rec .ready none))∧W.heap[w.heap.size]? =some (.deferred (some []))∧
  (∀r,r=w.heap.size+1∨r=w.heap.size∨r∈Fs→Frn ok' W ρ' hk r)∧ ∀r∈Fs,r≠w.heap.size+1
 have step:=iter first xs hxs ok W1 ρ uf.toList (VL.up _ E12.up v1) (w.heap.size+1) J W1 ?_ ?_ ?_
 ·refine ⟨w.heap.size+1,[{target:=.collected w.heap.size,args:= #[]}],W1,{target:=.fn (.func g) #[],args:=uf++ #[.func (.yield (w.heap.size+1)) #[] #[]]},W1,g,
   uf++ #[.func (.yield (w.heap.size+1)) #[] #[]],W1,?_,?_,fun _ _=>trivial,?_,fun h=>(by cases h),?_⟩
  ·rw [←hW1,hrec];exact run_enterLoop_outer _ _ _ _ _
  ·simp only [resolve,hf]
   simp [go_sem]
  ·simp [invoke,go_sem,eg]
  ·refine CallsIn.mono (by simpa using step) ?_
   rintro ee W ⟨⟨v,rfl⟩,Fs,ok',ρ',hk,q1,q2,q3,q4,q5,q6,_⟩;rw [List.drop_length] at q1
   cases q1
   have fl:=q6 _ (.inl rfl);have fd:=q6 _ (.inr (.inl rfl));have hend:=run_endLoop (P:=P) q4 (by rw [hrec];simp);obtain ⟨E3,I3,U3,s3,k3⟩:=Ext.oG S.inv q2 q3 fl (by omega) (by simp [World.shape?,q4]) (.loop {rec .ready none with state:=.exhausted});refine ⟨none,_,by rw [hend,hrec],rfl,ok',ρ',E3,I3,⟨S.tm.size,S.tm.inn,S.tm.low,fun i=>V.up _ E3.up (S.tm.get i)⟩,?_,Bo S.nl E3.size⟩;obtain ⟨ms,m1,m2,m3⟩:=S.df;have mlt: ∀D∈ms,D<w.heap.size:=fun D hD=>(Bw.1 (m3 D hD).at_).1
   refine ⟨w.heap.size::ms,by rw [BS,←m1];rfl,List.nodup_cons.2 ⟨fun h=>Nat.lt_irrefl _ (mlt _ h),m2⟩,fun D hD=>?_⟩
   rcases Bv.1 hD with rfl|hD
   ·exact ⟨S.nl,by rw [k3 _ (by omega)];exact q5,fd.nok,fd.free⟩
   ·have:=(m3 D hD).ext S.inv E3
    exact this
 ·--blocks more
  rintro k Fs W W' rs ⟨ok',ρ',hk,q1,q2,q3,q4,q5,q6,q7⟩ G hrs;obtain ⟨E3,I3,F3⟩:=Ext.att q3 G;refine ⟨ok',ρ',hk,q1,Ext.trans S.inv q2 E3,I3,((q6 _ (.inl rfl)).ext q3 E3).2.trans q4,((q6 _ (.inr (.inl rfl))).ext q3 E3).2.trans q5,fun r hr=>?_,fun r hr=>?_⟩
  ·rcases hr with h|h|h
   ·exact ((q6 r (.inl h)).ext q3 E3).1
   ·exact ((q6 r (.inr (.inl h))).ext q3 E3).1
   ·rcases Cd.1 h with h|h
    ·exact F3 r (hrs r h).1 (hrs r h).2
    ·exact ((q6 r (.inr (.inr h))).ext q3 E3).1
  ·rcases Cd.1 hr with h|h
   ·have:=(q6 _ (.inl rfl)).lt;have:=(hrs r h).1;omega
   ·exact q7 r h
 ·--a round
  rintro k Fs W y v ⟨ok',ρ',hk,q1,q2,q3,q4,q5,q6,q7⟩ hy hV;obtain ⟨hlt,hyk⟩:=Bc.1 hy;rw [CR hlt,hyk] at q1;obtain ⟨⟨ea,sa⟩,r1,r2⟩:=ai (show au (asg ⟨iW s.t x y,hk⟩) _=some h' from q1)
  cases ea with
  |exit i=>cases r2
  |ret=>cases r2
  |nrm=>
  obtain ⟨⟨eb,sb⟩,r3,r4⟩:=ai (show au (bdy sa) _=some h' from r2)
  cases eb with
  |exit i=>cases r4
  |ret=>cases r4
  |nrm=>
  have r4:rfA asg bdy x s.t (xs.drop (k+1)) sb.h=some h':=r4;have fl:=q6 _ (.inl rfl);have fd:=q6 _ (.inr (.inl rfl));have Sa:SOk nb C ok' W ρ' ps n ⟨iW s.t x y,hk⟩ {tmps:=a.tmps.setIfInBounds x v,defers:=[]}:=by
   refine ⟨q3,⟨by simpa using S.tm.size,fun i hi=>S.tm.inn i (by rw [gM] at hi;exact hi),S.tm.low,fun i=>?_⟩,Marks.nil _ _ _ _ _,Bo S.nl q2.size⟩
   show V ok' W (bc (iW s.t x y) i) ρ' ((a.tmps.setIfInBounds x v).getD i undef)
   by_cases hi:i=x
   ·subst hi
    cases ht:tin s.t i with
    |true=>
     rw [eO _ _ _ ht,ju,if_pos ⟨rfl,Bm (S.tm.low i (S.tm.inn i ht)) S.tm.size⟩];exact hV _ _ _
    |false=>rw [iD _ _ (by rw [gM];exact ht)];simp only [V]
   ·rw [dP _ _ _ _ hi,ju,if_neg (fun h=>hi h.1.symm)]
    exact V.up _ q2.up (S.tm.get i)
  have hyl:=run_yield (P:=P) (args:= #[v]) q4 (by rw [hrec];rfl)
  refine ⟨fn,a.tmps.setIfInBounds x v,assign,body,by rw [hyl,hrec];simp,roundIn_of_wpIn trivial ?_⟩
  rw [←hA] at r1;refine wpIn_mono (zL X H (w.heap.size+1) 0 assign hcalm.1 r1 hb2.1 Sa) ?_;rintro ee a1 w1 ⟨rfl,ok1,ρ1,E1',S1⟩;have f1:=fl.ext q3 E1';have d1:=fd.ext q3 E1';have l1:w1.heap[w.heap.size+1]? =some (.loop (rec .ready none)):=f1.2.trans q4;have B1:=Ext.trans S.inv q2 E1';obtain ⟨B2,J2,U2,s2,k2⟩:=Ext.oG S.inv B1 S1.inv f1.1 (by omega) (by simp [World.shape?,l1]) (.loop {rec .ready none with state:=.busy});refine ⟨_,run_beginRound l1 (by rw [hrec]),?_⟩;have S2:SOk nb C ok1 (w1.putObj (w.heap.size+1) (.loop {rec .ready none with state:=.busy})) ρ1 ps n sa a1:=⟨J2,⟨S1.tm.size,S1.tm.inn,S1.tm.low,fun i=>V.up _ U2 (S1.tm.get i)⟩,S1.df.afD k2 (by rw [l1];simp),by rw [s2];exact S1.nl⟩;have l2:(w1.putObj (w.heap.size+1) (.loop {rec .ready none with state:=.busy})).heap[w.heap.size+1]? =some (.loop {rec .ready none with state:=.busy}):=World.putObj_heap_same f1.1.lt
  generalize hw2:w1.putObj (w.heap.size+1) (.loop {rec .ready none with state:=.busy})=w2 at B2 J2 U2 s2 k2 S2 l2
  rw [←hB] at r3;refine wpIn_mono (zL X H (w.heap.size+1) 0 body hcalm.2 r3 hb2.2 S2) ?_;rintro ee a3 w3 ⟨rfl,ok3,ρ3,E3,S3⟩;have f3:=(f1.1.oG s2).ext J2 E3;have l3:w3.heap[w.heap.size+1]? =some (.loop {rec .ready none with state:=.busy}):=f3.2.trans l2;have B3:=Ext.trans S.inv B2 E3;have hend:=run_endRound (P:=P) none l3;obtain ⟨B4,J4,U4,s4,k4⟩:=Ext.oG S.inv B3 S3.inv f3.1 (by omega) (by simp [World.shape?,l3]) (.loop (rec .ready none));have re:({({rec .ready none with state:=.busy}:Loop) with state:=if (none:Option Code).isNone then .ready else .done,pending:=none}:Loop)=rec .ready none:=by rw [hrec];rfl
  rw [re] at hend;have keep: ∀r,r≠w.heap.size+1→Frn ok' W ρ' hk r→Frn ok3 (w3.putObj (w.heap.size+1) (.loop (rec .ready none))) ρ3 sb.h r∧(w3.putObj (w.heap.size+1) (.loop (rec .ready none))).heap[r]? =W.heap[r]? :=fun r hr fr=>by
   have g1:=fr.ext q3 E1';have g2:=(g1.1.oG s2).ext J2 E3;exact ⟨g2.1.oG s4,(k4 r hr).trans (g2.2.trans ((k2 r hr).trans g1.2))⟩
  refine ⟨_,_,hend,rfl,⟨ok3,ρ3,sb.h,r4,B4,J4,World.putObj_heap_same f3.1.lt,((keep _ (by omega) fd).2).trans q5,fun r hr=>?_,q7⟩,fun r hr=>(keep r (q7 r hr) (q6 r (.inr (.inr hr)))).2⟩
  ·by_cases hl:r=w.heap.size+1
   ·subst hl;exact f3.1.oG s4
   ·exact (keep r hl (q6 r hr)).1
 ·refine ⟨ok,ρ,s.h,by rw [BF];exact e1,E12,I2,hL1,hD1,fun r hr=>?_,fun r hr=>nomatch hr⟩
  rcases hr with rfl|rfl|h
  ·exact F2
  ·exact F1'.1
  ·cases h
end
section
variable {nb:Nat} {P:Program} {C:Cx} {run:Run} {lp:Lp}
theorem vH {ps:List Nat} {a b:Code} {ka kb k1 k2:K} (e:vI C ps a b ka kb= .seq k1 k2):k2=kb:=by
 unfold vI at e
 split at e
 ·split at e<;>cases e
  rfl
 ·cases e;rfl
theorem as1 {ps:List Nat} {id jn c id1 id2 je:Nat} {nx en:Array Oper} {rest:Code} {x1 x2:Nat} {k1 k2 k3 k4:K}
 (e:comp C ps (.block id (.loop (.seq (.region jn nx false) (.seq (.cond (.tmp c) .skip (.exit id1)) (.block id2 (.seq (.region je en false) rest))))))= .block x1 (.loop (.seq k1 (.seq k2 (.block x2 (.seq k3 k4)))))):k4=comp C ps rest:=by
 have e:K.block id (.loop (vI C ps (.region jn nx false) (.seq (.cond (.tmp c) .skip (.exit id1)) (.block id2 (.seq (.region je en false) rest))) (comp C ps (.region jn nx false)) (comp C ps (.seq (.cond (.tmp c) .skip (.exit id1)) (.block id2 (.seq (.region je en false) rest))))))= .block x1 (.loop (.seq k1 (.seq k2 (.block x2 (.seq k3 k4))))):=e;simp only [K.block.injEq,K.loop.injEq] at e;have e1:=vH e.2;have e2:vI C ps (.cond (.tmp c) .skip (.exit id1)) (.block id2 (.seq (.region je en false) rest)) (comp C ps (.cond (.tmp c) .skip (.exit id1))) (comp C ps (.block id2 (.seq (.region je en false) rest)))= .seq k2 (.block x2 (.seq k3 k4)):=e1.symm;have e3:=vH e2;have e4:K.block x2 (.seq k3 k4)= .block id2 (vI C ps (.region je en false) rest (comp C ps (.region je en false)) (comp C ps rest)):=e3;simp only [K.block.injEq] at e4;exact vH e4.2.symm
theorem akg (X:c7 P C) (H:dB P C run) (L:agO P C lp): ∀(c:Code) {ps:List Nat} {n:Nat} {s:St} {ex:Ex} {s':St},kx C run lp (comp C ps c) s=some (ex,s')→dI n c=true→ ∀{ok:Nat→Prop} {w:World} {ρ:Rho} {a:Act},SOk nb C ok w ρ ps n s a→
 c.wp P (j6 nb C ok w ρ ps n s.h ex s') a w:=by
 intro c
 induction hsz:SizeOf.sizeOf c using Nat.strongRecOn generalizing c with
 |_ msz ih0=>
 subst hsz;have IH: ∀c',SizeOf.sizeOf c'<SizeOf.sizeOf c→ ∀{ps:List Nat} {n:Nat} {s:St} {ex:Ex} {s':St},kx C run lp (comp C ps c') s=some (ex,s')→dI n c'=true→ ∀{ok:Nat→Prop} {w:World} {ρ:Rho} {a:Act},SOk nb C ok w ρ ps n s a→
  c'.wp P (j6 nb C ok w ρ ps n s.h ex s') a w:=fun c' h=>ih0 _ h c' rfl
 clear ih0
 cases c with
 |skip=>
  intro ps n s ex s' e hb ok w ρ a S
  cases e
  exact wp_skip ⟨rfl,ok,ρ,Ext.refl _ _ _ _,S⟩
 |region id ops d=>
  intro ps n s ex s' e hb ok w ρ a S;have hb2: ∀o∈ops.toList,opB n o=true:=BG.1 hb;have post: ∀a' w' ok' ρ',Ext ok w ρ s.h ok' w' ρ' s'.h→Inv C ok' w' ρ' s'.h→TOk ok' w' ρ' ps n s'.t a'.tmps→a'.defers=a.defers→j6 nb C ok w ρ ps n s.h .nrm s' .normal a' w':=
   fun a' w' ok' ρ' q1 q2 q3 q4=>⟨rfl,ok',ρ',q1,q2,q3,by rw [q4];exact S.df.ext S.inv q1,Bo S.nl q1.size⟩
  cases d with
  |false=>
   have e:dr (gW C run (flL ps ops.toList) s.t (bo C ops.toList [] ops.toList) [] s.h)=some (ex,s'):=e;obtain ⟨h1,e2⟩:=kT e;subst h1;exact wp_region (wS X H hb2 S.inv S.tm e2 _ post)
  |true=>
   have e:kx C run lp (bq (fy C ops) (.draw (bZ C ops.toList (cr ops.toList) 0 (bo C ops.toList [] ops.toList)) (bX C ops) (flL ps ops.toList)) (abu C ps ops)) s=some (ex,s'):=e
   cases hok:fy C ops with
   |false=>
    rw [hok,aE] at e;unfold abu at e
    split at e
    ·rename_i i j _
     cases h2:aaV C ops i j with
     |false=>rw [h2] at e;cases e
     |true=>
      rw [h2,aA] at e;obtain ⟨h1,e2⟩:=kT (show dr _=some (ex,s') from e);subst h1;obtain ⟨r,e3,e4⟩:=ai e2;obtain ⟨e5,e6⟩:=aB e4
      cases e6
      unfold aly at e5
      split at e5
      ·rename_i t h t' h' q1 q2
       rw [Ba] at e5;have g1:=qS e5.1;have g2:=mO e5.2
       cases q1
       subst g1;subst g2
       exact apg X H h2 hb2 S.inv S.tm e3 q2 _ post
      ·cases e5
    ·cases e
   |true=>
    rw [hok,aA] at e;obtain ⟨h1,e2⟩:=kT (show dr (jM C run (flL ps ops.toList) s.t (bZ C ops.toList (cr ops.toList) 0 (bo C ops.toList [] ops.toList)) (bX C ops) s.h)=some (ex,s') from e);subst h1;exact as4 X H hok hb2 S.inv S.tm e2 _ post
 |seq x y=>
  intro ps n s ex s' e hb0 ok w ρ a S;have ihx:=fun {ps n s ex s'}=>@IH x (by simp;omega) ps n s ex s'
  have ihy:=fun {ps n s ex s'}=>@IH y (by simp;omega) ps n s ex s'
  have hb:(dI n x&&dI n y)=true:=hb0;have e:kx C run lp (vI C ps x y (comp C ps x) (comp C ps y)) s=some (ex,s'):=e
  by_cases hrm: ∃d x1 x2 k1 k2 k3 kr,abc C x y=some d∧comp C ps y= .block x1 (.loop (.seq k1 (.seq k2 (.block x2 (.seq k3 kr)))))
  ·obtain ⟨d,x1,x2,k1,k2,k3,kr,h1,h2⟩:=hrm
   unfold vI at e;rw [h1,h2] at e;refine axY X H h1 e hb0 (fun {id jn nx c id1 id2 je en rest} hy=>?_) S;subst hy
   have:=as1 h2
   subst this;intro s ex s' e2 ok w ρ a S2;have hb3:dI n rest=true:=by
    simp only [dI,Ba] at hb;exact hb.2.2.2.2
   exact IH rest (by simp;omega) e2 hb3 S2
  have e:kx C run lp (.seq (comp C ps x) (comp C ps y)) s=some (ex,s'):=by
   unfold vI at e
   split at e
   ·rename_i d hd
    split at e
    ·rename_i x1 k1 k2 x2 k3 kr hk
     exact absurd ⟨d,x1,x2,k1,k2,k3,kr,hd,hk⟩ hrm
    ·exact e
   ·exact e
  rw [Ba] at hb;obtain ⟨⟨ex1,s1⟩,e1,e2⟩:=ai (show au (kx C run lp (comp C ps x) s) (vf (kx C run lp (comp C ps y)))=some (ex,s') from e);refine wp_seq (wp_mono (ihx e1 hb.1 S) ?_);rintro e a1 w1 ⟨rfl,ok1,ρ1,E1,S1⟩;rcases xP e2 with ⟨h1,h2⟩|⟨h1,h2⟩
  ·simp only at h1 h2
   subst h1;exact wp_mono (ihy h2 hb.2 S1) (fun _ _ _ p=>p.trans S E1)
  ·cases h2
   exact lV h1 ⟨rfl,ok1,ρ1,E1,S1⟩
 |cond x th el=>
  intro ps n s ex s' e hb ok w ρ a S;have iht:=fun {ps n s ex s'}=>@IH th (by simp;omega) ps n s ex s'
  have ihe:=fun {ps n s ex s'}=>@IH el (by simp;omega) ps n s ex s'
  have hb:(dI n th&&dI n el)=true:=hb;rw [Ba] at hb;have e:kIf (ev C [] s.t (od [] x)) (kx C run lp (comp C ps th)) (kx C run lp (comp C ps el)) s=some (ex,s'):=e;have hx:=S.tm.ri.operand S.inv x
  cases hv:ev C [] s.t (od [] x)<;>rw [hv] at e hx<;>try (cases e;done)
  rename_i b
  simp only [V] at hx
  cases b with
  |true=>exact wp_cond_true hx (iht e hb.1 S)
  |false=>exact wp_cond_false hx (ihe e hb.2 S)
 |block id b=>
  intro ps n s ex s' e hb ok w ρ a S;have ih:=fun {ps n s ex s'}=>@IH b (by first|(simp;done)|(simp;omega)) ps n s ex s'
  obtain ⟨⟨ex1,s1⟩,e1,e2⟩:=ai (show au (kx C run lp (comp C ps b) s) (aqO id)=some (ex,s') from e);refine wp_block (wp_mono (ih e1 hb S) ?_);rintro e a1 w1 ⟨rfl,ok1,ρ1,E1,S1⟩
  cases ex1 with
  |nrm=>cases e2;exact ⟨rfl,ok1,ρ1,E1,S1⟩
  |ret=>cases e2;exact ⟨rfl,ok1,ρ1,E1,S1⟩
  |exit i=>
   have e2:bq (Nat.beq i id) (some (.nrm,s1)) (some (.exit i,s1))=some (ex,s'):=e2;show (if i=id then _ else _)
   cases hi:Nat.beq i id with
   |true=>
    rw [hi] at e2;cases e2
    rw [if_pos (A8 hi)];exact ⟨rfl,ok1,ρ1,E1,S1⟩
   |false=>
    rw [hi] at e2;cases e2
    rw [if_neg (fun c=>by rw [c,Bs] at hi;cases hi)]
    exact ⟨rfl,ok1,ρ1,E1,S1⟩
 |loop b=>
  intro ps n s ex s' e hb ok w ρ a S;exact (L nb b ps n s ex s' e hb ok w ρ a S).wp
 |rangeFunc f pa assign body=>
  intro ps n s ex s' e hb ok w ρ a S;exact awK X H e hb S
 |exit id=>
  intro ps n s ex s' e hb ok w ρ a S
  cases e
  exact wp_exit ⟨rfl,ok,ρ,Ext.refl _ _ _ _,S⟩
 |scope b=>
  intro ps n s ex s' e hb ok w ρ a S;have ih:=fun {ps n s ex s'}=>@IH b (by first|(simp;done)|(simp;omega)) ps n s ex s'
  refine wp_scope_straight (wp_mono (ih e hb S) ?_);rintro e a1 w1 ⟨rfl,p⟩
  cases ex<;>exact ⟨rfl,p⟩
 |label l=>
  intro ps n s ex s' e hb ok w ρ a S
  cases e
  exact wp_label ⟨rfl,ok,ρ,Ext.refl _ _ _ _,S⟩
 |goto l=>intro ps n s ex s' e;cases e
 |ret=>
  intro ps n s ex s' e hb ok w ρ a S
  cases e
  exact wp_ret ⟨rfl,ok,ρ,Ext.refl _ _ _ _,S⟩
 |refuse why=>intro ps n s ex s' e;cases e
theorem avt (X:c7 P C) (H:dB P C run) (L:agO P C lp):agO P C (lpF C run lp):=by
 intro nb c ps n s ex s' e hb ok w ρ a S;obtain ⟨⟨ex1,s1⟩,e1,e2⟩:=ai (show au (kx C run lp (comp C ps c) s) (vf (lp (comp C ps c)))=some (ex,s') from e);refine lO (wp_mono (akg X H L c e1 hb S) ?_);rintro e a1 w1 ⟨rfl,ok1,ρ1,E1,S1⟩;rcases xP e2 with ⟨h1,h2⟩|⟨h1,h2⟩
 ·simp only at h1 h2
  subst h1
  have:=L nb c ps n s1 ex s' h2 hb ok1 w1 ρ1 a1 S1
  intro b k cs;obtain ⟨e,a',w',q,r⟩:=this b k cs;exact ⟨e,a',w',q.trans S E1,r⟩
 ·cases h2
  exact lV h1 ⟨rfl,ok1,ρ1,E1,S1⟩
end
section
variable {nb:Nat} {P:Program} {C:Cx} {ok:Nat→Prop} {w:World} {ρ:Rho} {h:AH} {run:Run} {lp:Lp}
theorem zd: ∀(k:Nat) (l:List Nat) (i:Nat),bc (vV k l) i= .bot
 |0,l,i=>by unfold vV;rfl
 |k+1,[],i=>rfl
 |k+1,[a],i=>by show bq (Nat.beq i a) AV.bot AV.bot=_;cases Nat.beq i a<;>rfl
 |k+1,a::b::l,i=>by
  show bc (.nd _ (vV k _) (vV k _)) i=_;rw [iU]
  cases Nat.ble _ i with
  |true=>exact zd k _ i
  |false=>exact zd k _ i
theorem acM: ∀(k:Nat) (l:List Nat) (i:Nat),tin (vV k l) i=true→i∈l
 |0,l,i,h=>by unfold vV at h;cases h
 |k+1,[],i,h=>by cases h
 |k+1,[a],i,h=>by have:Nat.beq i a=true:=h;rw [A8 this];simp
 |k+1,a::b::l,i,h=>by
  have h:tin (.nd _ (vV k _) (vV k _)) i=true:=h;rw [lq] at h
  cases hm:Nat.ble _ i with
  |true=>rw [hm] at h;exact BY (acM k _ i h)
  |false=>rw [hm] at h;exact BX (acM k _ i h)
theorem xJ: ∀(args:List AV) (i:Nat) (t:Tms) (j:Nat),tin (apJ args i t) j=tin t j
 |[],_,_,_=>rfl
 |v::r,i,t,j=>(xJ r (i+1) (iW t i v) j).trans (gM t i v j)
theorem abw {X:Nat→Value}: ∀(args:List AV) (i:Nat) (t:Tms),(∀j,V ok w (bc t j) ρ (X j))→(∀q v,args[q]? =some v→V ok w v ρ (X (i+q)))→ ∀j,V ok w (bc (apJ args i t) j) ρ (X j)
 |[],_,_,h,_=>h
 |v::r,i,t,h,ha=>by
  refine abw r (i+1) (iW t i v) (fun j=>?_) (fun q u hq=>?_)
  ·by_cases hj:j=i
   ·subst hj
    cases ht:tin t j with
    |true=>rw [eO t j v ht];exact ha 0 v rfl
    |false=>rw [iD _ _ (by rw [gM];exact ht)];simp only [V]
   ·rw [dP t i v j hj];exact h j
  ·have:=ha (q+1) u (by simpa using hq)
   rwa [show i+(q+1)=i+1+q by omega] at this
theorem asa {args:List AV} {us:List Value} {ps:List Nat} {n:Nat} (hv:VL ok w args ρ us) (hl:args.length≤n) (hp: ∀i∈ps,i<n):TOk ok w ρ ps n (ae4 args ps) (us.toArray++Array.replicate (n-us.toArray.size) undef):=by
 have ul:=cm hv;refine ⟨by simp;omega,fun i hi=>?_,hp,?_⟩
 ·exact acM 40 ps i ((xJ args 0 _ i).symm.trans hi)
 ·refine abw (X:=fun j=>(us.toArray++Array.replicate (n-us.toArray.size) undef).getD j undef) args 0 _ (fun j=>?_) (fun q v hq=>?_)
  ·rw [zd];simp only [V]
  ·obtain ⟨u,k1,k2⟩:=pb hv hq
   have hlt:=(Bc.1 k1).1
   have:(us.toArray++Array.replicate (n-us.toArray.size) undef).getD (0+q) undef=u:=by
    rw [BE,Bz,Array.getElem?_append_left (by simpa using hlt)]
    simp [k1]
   rw [this];exact k2
theorem aq2 {x:Option Rs} {y:AV×AH} (e:vhO x=some y):x=some (.vh y.1 y.2):=by
 unfold vhO at e
 split at e
 ·cases e;rfl
 ·cases e
def arc (tmps:Array Value):ResultVar→Sem Value
 | .tmp t=>pure (tmps.getD t undef)
 | .cell b t=>do loadVar t (←asAddr (tmps.getD b undef))
theorem aeb (fn:Func) (tmps:Array Value):results fn tmps=(do let vs ←fn.results.mapM (arc tmps);pure (if h:vs.size=1 then vs[0] else .tuple vs)):=by
 unfold results
 congr 2
theorem acX (X:c7 P C) {ps:List Nat} {n:Nat} {s:St} {a:Act} (S:SOk nb C ok w ρ ps n s a): ∀{l:List ResultVar} {vs:List AV},nF C s.h s.t l=some vs→
 ∃us:List Value,(l.mapM (arc a.tmps)).run P w= .ok us w∧VL ok w vs ρ us
 |[],vs,e=>by cases e;exact ⟨[],by simp,by simp [VL]⟩
 | .tmp i::l,vs,e=>by
   simp only [nF] at e
   split at e
   ·rename_i r hr
    cases e
    obtain ⟨us,h1,h2⟩:=acX X S hr;refine ⟨a.tmps.getD i undef::us,?_,by simp only [VL];exact ⟨_,_,rfl,S.tm.get i,h2⟩⟩;rw [List.mapM_cons];simp only [arc,Sem.run_bind,Sem.run_pure,Result.andThen_ok,h1]
   ·cases e
 | .cell b ty::l,vs,e=>by
   simp only [nF] at e
   split at e
   ·rename_i x r hx hr
    cases e
    obtain ⟨us,h1,h2⟩:=acX X S hr;have hx:=aq2 hx;have hb:=S.tm.get b;unfold aeP at hx
    split at hx
    ·rename_i ti ht
     have pu:Pu P ok w ρ s.h kVH (.vh x.1 x.2) (Instr.loadAt ty (a.tmps.getD b undef)):=by
      cases ha:ti.agg with
      |true=>rw [ha] at hx;exact uw (X.ty _ _ ht) ha S.inv hb hx
      |false=>rw [ha] at hx;exact uW (X.ty _ _ ht) ha S.inv hb hx
     obtain ⟨v,z,k1,k2,k3⟩:=pu;have k1:some (Rs.vh v s.h)=some (Rs.vh x.1 x.2):=k1;have hxv:v=x.1:=by cases x;cases k1;rfl
     subst hxv;have hp: ∃q,a.tmps.getD b undef= .pointer (some q):=by
      cases ha:ti.agg with
      |true=>rw [ha] at hx;rcases gz (show mi _ _ _=some _ from hx) with ⟨b',o,h,_⟩|⟨b',o,h,_⟩<;>rw [h] at hb<;>first|exact zS hb|exact aay hb
      |false=>rw [ha] at hx;rcases gz (show mi _ _ _=some _ from hx) with ⟨b',o,h,_⟩|⟨b',o,h,_⟩<;>rw [h] at hb<;>first|exact zS hb|exact aay hb
     obtain ⟨q,hq⟩:=hp;rw [hq] at k3;have k3:(loadVar ty q).run P w= .ok z w:=by simpa [Instr.loadAt,Instr.sureAddr] using k3
     refine ⟨z::us,?_,by simp only [VL];exact ⟨_,_,rfl,k2,h2⟩⟩
     rw [List.mapM_cons];simp only [arc,Sem.run_bind,hq,asAddr,Sem.run_pure,Result.andThen_ok,k3,h1]
    ·cases hx
   ·cases e
theorem au0 {vs:List AV} {us:List Value} (hv:VL ok w vs ρ us):V ok w (acU vs) ρ (if h:us.toArray.size=1 then us.toArray[0] else .tuple us.toArray):=by
 have hl:=cm hv;unfold acU
 split
 ·simp only [VL] at hv
  obtain ⟨u,r,rfl,h1,rfl⟩:=hv
  simpa using h1
 ·rename_i hn
  have: ¬(us.toArray.size=1):=by
   intro c
   have:vs.length=1:=by simp at c;omega
   obtain ⟨v,rfl⟩:=List.length_eq_one_iff.1 this;exact hn v rfl
  rw [dif_neg this];simp only [V];exact ⟨us.toArray,rfl,hv⟩
theorem Up.trans {ok ok1 ok2:Nat→Prop} {w w1 w2:World} {ρ ρ1 ρ2:Rho} (a:Up ok w ρ ok1 w1 ρ1) (b:Up ok1 w1 ρ1 ok2 w2 ρ2):Up ok w ρ ok2 w2 ρ2:=
 ⟨fun r h=>(b.okb r (a.oku r h)).trans (a.okb r h),fun r h=>b.oku r (a.oku r h),fun r s h=>b.shp r s (a.shp r s h),fun n r h=>b.nam n r (a.nam n r h)⟩
theorem aat {fn:Func} {tmps:Array Value} {R:Ending→World→Prop} {w0:World} {ok1:Nat→Prop} {ρ1:Rho} {h1:AH} {m:Nat} (I0:Inv C ok w0 ρ h): ∀(l:List Nat) (w1:World),l.Nodup→(∀D∈l,Mark w0.heap.size ok1 w1 ρ1 h1 D)→Inv C ok1 w1 ρ1 h1→Ext ok w0 ρ h ok1 w1 ρ1 h1→
 (∀w2,Inv C ok1 w2 ρ1 h1→Ext ok w0 ρ h ok1 w2 ρ1 h1→Up ok1 w1 ρ1 ok1 w2 ρ1→ ∃v,(results fn tmps).run P w2= .ok v w2∧R (.returned v) w2)→LeavesInM Fence.wide m P fn tmps R (l.map ata) .returning w1
 |[],w1,_,_,I,E,fin=>fin w1 I E (Up.refl _ _ _)
 |D::l,w1,hn,hm,I,E,fin=>by
  have mD:=hm D (BB ..);have hlt:D<w1.heap.size:=(Bw.1 mD.at_).1;have hs:(w1.putObj D (.deferred none)).heap.size=w1.heap.size:=by simp [World.putObj]
  have hk: ∀k,k≠D→(w1.putObj D (.deferred none)).heap[k]? =w1.heap[k]? :=fun k hk=>World.putObj_heap_other hk
  obtain ⟨U,I2⟩:=pw I hs hk (by simp [World.shape?,mD.at_]) mD.nok mD.free;have E2:=mZ I0 E mD.low U hs hk rfl rfl rfl;refine ⟨by simp,.inl ⟨D,_,rfl,run_takeDeferred mD.at_,?_⟩⟩;refine aat I0 l _ (List.nodup_cons.1 hn).2 (fun D' hD'=>?_) I2 E2 (fun w2 I3 E3 U3=>fin w2 I3 E3 (Up.trans U U3));have hne:D'≠D:=fun e=>(List.nodup_cons.1 hn).1 (e▸hD')
  have m':=hm D' (Bh _ hD');exact ⟨m'.low,by rw [hk D' hne];exact m'.at_,m'.nok,m'.free⟩
theorem agh (X:c7 P C) (H:dB P C run) (L:agO P C lp):dB P C (dk C run lp):=by
 intro f args h r h' e;unfold dk at e
 split at e
 ·rename_i g hg
  exact X.orc f g hg run H args h r h' e
 ·obtain ⟨fk,e1,e2⟩:=ai (show au (dz C f) _=some (r,h') from e)
  obtain ⟨fn,e3,e4⟩:=ai (show au (C.fn f) (acP C)=some fk from e1);obtain ⟨hf,hname⟩:=X.fn f fn e3;unfold acP at e4
  split at e4
  ·rename_i c hc
   obtain ⟨e5,e6⟩:=aB (show bq _ _ none=some fk from e4)
   cases e6
   rw [Ba] at e5;obtain ⟨e51,e52⟩:=e5;have hp: ∀i∈adA (pY [] c) fn.results.toList,i<fn.ntmps:=by
    intro i hi
    have:=BG.1 e52 i hi
    simpa [Ce] using this
   obtain ⟨e7,e8⟩:=aB (show bq _ _ none=some (r,h') from e2);have e7:=Be e7;rw [ah] at e7;obtain ⟨⟨ex,s'⟩,e9,e10⟩:=ai e8;refine ⟨⟨fn,hf,hname,by rw [hc];rfl⟩,fun ok w ρ us I hv=>?_⟩;refine (callsIn_wide (n:=1)).1 (callsIn_of_wp_marks hf hc trivial ?_ rfl);have S:SOk w.heap.size C ok w ρ (adA (pY [] c) fn.results.toList) fn.ntmps ⟨ae4 args (adA (pY [] c) fn.results.toList),h⟩ {tmps:=us.toArray++Array.replicate (fn.ntmps-us.toArray.size) undef,defers:=[]}:=⟨I,asa hv e7 hp,Marks.nil _ _ _ _ _,A9 _⟩;refine wpIn_wide.2 (wp_mono (akg X H L c e9 e51 S) ?_);rintro e a1 w1 ⟨rfl,ok1,ρ1,E1,S1⟩;unfold avr at e10;have fin: ∀l,nF C s'.h s'.t fn.results.toList=some l→r=acU l→h'=s'.h→LeavesInM Fence.wide 1 P fn a1.tmps (fun e w'=>∃u ok' ρ',e= .returned u∧Ext ok w ρ h ok' w' ρ' h'∧Inv C ok' w' ρ' h'∧V ok' w' r ρ' u) a1.defers .returning w1:=by
    rintro l hl rfl rfl;obtain ⟨ms,d1,d2,d3⟩:=S1.df;rw [d1];refine aat I ms w1 d2 d3 S1.inv E1 fun w2 I2 E2 U2=>?_
    have S2:SOk w.heap.size C ok1 w2 ρ1 (adA (pY [] c) fn.results.toList) fn.ntmps s' {a1 with defers:=[]}:=⟨I2,⟨S1.tm.size,S1.tm.inn,S1.tm.low,fun i=>V.up _ U2 (S1.tm.get i)⟩,Marks.nil _ _ _ _ _,E2.size⟩;obtain ⟨vs,k1,k2⟩:=acX X S2 hl;refine ⟨_,?_,_,ok1,ρ1,rfl,E2,I2,au0 k2⟩;rw [aeb,Array.mapM_eq_mapM_toList];simp only [Sem.run_bind,Sem.run_map,k1,Result.andThen_ok,Sem.run_pure]
   cases ex with
   |exit i=>cases e10
   |nrm=>
    simp only at e10
    split at e10
    ·rename_i l hl;cases e10;exact fin l hl rfl rfl
    ·cases e10
   |ret=>
    simp only at e10
    split at e10
    ·rename_i l hl;cases e10;exact fin l hl rfl rfl
    ·cases e10
  ·cases e4
theorem auo (X:c7 P C): ∀n,dB P C (rl C n).run∧agO P C (rl C n).lp
 |0=>⟨fun f args h r h' e=>(by cases e),fun nb c ps n s ex s' e=>(by cases e)⟩
 |n+1=>by
  obtain ⟨h1,h2⟩:=auo X n;exact ⟨agh X h1 h2,avt X h1 h2⟩
theorem aqq (X:c7 P C) (n:Nat):dB P C (runN C n):=(auo X n).1
theorem aeM {ok:Nat→Prop} {w:World} {ρ:Rho} {t:Tm} {f:Nat→Value} (h: ∀i,V ok w (bc t i) ρ (f i)): ∀l:List Nat,VL ok w (dc (bc t) l) ρ (l.map f)
 |[]=>by simp [dc,VL]
 |k::l=>by
  show VL ok w (bc t k::dc (bc t) l) ρ (f k::l.map f);simp only [VL];exact ⟨_,_,rfl,h k,aeM h l⟩
theorem abr {ok:Nat→Prop} {w:World} {ρ:Rho}: ∀{us vs:List Value} {l:List AV},VL ok w l ρ (us++vs)→ ∃a b,l=a++b∧VL ok w a ρ us∧VL ok w b ρ vs
 |[],vs,l,h=>⟨[],l,rfl,by simp [VL],h⟩
 |u::us,vs,l,h=>by
  cases l with
  |nil=>simp [VL] at h
  |cons x l=>
   simp only [VL] at h;obtain ⟨u',r,e,h1,h2⟩:=h;simp only [Ca,List.cons.injEq] at e;obtain ⟨rfl,rfl⟩:=e;obtain ⟨a,b,rfl,g1,g2⟩:=abr h2;exact ⟨x::a,b,rfl,by simp only [VL];exact ⟨_,_,rfl,h1,g1⟩,g2⟩
theorem uG {ok:Nat→Prop} {w:World} {ρ:Rho} {f:Nat→Value}: ∀(t:Tm) (l r:List AV),VL ok w l ρ ((qJ t).map f)→(oQ t (l++r)).2=r∧(∀i,V ok w (bc (oQ t (l++r)).1 i) ρ (f i))∧ ∀i,tin (oQ t (l++r)).1 i=tin t i
 | .nl,l,r,h=>by
   have:l=[]:=by
    cases l with
    |nil=>rfl
    |cons a l=>simp [qJ,VL] at h
   subst this;exact ⟨rfl,fun i=>by show V ok w .bot ρ _;simp only [V],fun i=>rfl⟩
 | .lf k v,l,r,h=>by
   have h:VL ok w l ρ [f k]:=h
   cases l with
   |nil=>simp [VL] at h
   |cons a l=>
    simp only [VL] at h;obtain ⟨u',r',e,h1,h2⟩:=h;simp only [List.cons.injEq] at e;obtain ⟨rfl,rfl⟩:=e
    cases l with
    |cons b l=>simp [VL] at h2
    |nil=>
     refine ⟨rfl,fun i=>?_,fun i=>rfl⟩;show V ok w (bq (Nat.beq i k) a .bot) ρ (f i)
     cases hb:Nat.beq i k with
     |true=>rw [aA,A8 hb];exact h1
     |false=>rw [aE];simp only [V]
 | .nd m x y,l,r,h=>by
   have h:VL ok w l ρ ((av (qJ x) (qJ y)).map f):=h;rw [aV,Co] at h;obtain ⟨a,b,rfl,h1,h2⟩:=abr h;obtain ⟨g1,g2,g3⟩:=uG x a (b++r) h1;obtain ⟨k1,k2,k3⟩:=uG y b r h2;have e:oQ (.nd m x y) (a++b++r)=(.nd m (oQ x (a++(b++r))).1 (oQ y (oQ x (a++(b++r))).2).1,(oQ y (oQ x (a++(b++r))).2).2):=by rw [BJ];rfl
   rw [e,g1];refine ⟨k1,fun i=>?_,fun i=>?_⟩
   ·show V ok w (bc (.nd m _ _) i) ρ _
    rw [iU]
    cases Nat.ble m i with
    |true=>exact k2 i
    |false=>exact g2 i
   ·show tin (.nd m _ _) i=tin (.nd m x y) i
    rw [lq,lq,g3,k3]
theorem aqJ (k:Nat) (l:List AV) (h:AH): ∃l',(gcA k (.tup l,h)).1= .tup l':=by
 unfold gcA;rw [alG,ad1];unfold gcK
 cases and (and (acb _ k) ((AV.tup l).anB _)) _ with
 |true=>exact ⟨_,rfl⟩
 |false=>exact ⟨_,rfl⟩
theorem avM {ok:Nat→Prop} {w:World} {ρ:Rho} {h:AH} (I:Inv C ok w ρ h) {ps:List Nat} {n:Nat} {ok1:Nat→Prop} {w1:World} {ρ1:Rho} {s:St} {a:Act} (E:Ext ok w ρ h ok1 w1 ρ1 s.h) (S:SOk nb C ok1 w1 ρ1 ps n s a):
 ∃ρ2,Ext ok w ρ h ok1 w1 ρ2 (gcL (ag h) s).h∧SOk nb C ok1 w1 ρ2 ps n (gcL (ag h) s) a:=by
 unfold gcL
 cases Nat.ble (Nat.add (ag h) 24) (ag s.h) with
 |false=>exact ⟨ρ1,E,S⟩
 |true=>
  rw [aA];unfold gcS;rw [ah];have hv:V ok1 w1 (.tup (dc (bc s.t) (qJ s.t))) ρ1 (.tuple ((qJ s.t).map fun i=>a.tmps.getD i undef).toArray):=by
   simp only [V];exact ⟨_,rfl,aeM (f:=fun i=>a.tmps.getD i undef) S.tm.get _⟩
  obtain ⟨ρ2,E2,I2,V2,sub⟩:=apo I E S.inv hv;obtain ⟨l',hl⟩:=aqJ h.length (dc (bc s.t) (qJ s.t)) s.h
  generalize gcA h.length (.tup (dc (bc s.t) (qJ s.t)),s.h)=x at*
  obtain ⟨x1,x2⟩:=x;simp only at hl;subst hl;simp only [V] at V2;obtain ⟨us,e,V2⟩:=V2
  cases e
  obtain ⟨_,g2,g3⟩:=uG (f:=fun i=>a.tmps.getD i undef) s.t l' [] V2;rw [Bx] at g2 g3;refine ⟨ρ2,E2,I2,⟨S.tm.size,fun i hi=>S.tm.inn i (by rw [←g3];exact hi),S.tm.low,g2⟩,?_,S.nl⟩;obtain ⟨ms,m1,m2,m3⟩:=S.df;refine ⟨ms,m1,m2,fun D hD=>⟨(m3 D hD).low,(m3 D hD).at_,(m3 D hD).nok,fun n hn e=>?_⟩⟩;obtain ⟨m,hm,em⟩:=sub n D hn e;exact (m3 D hD).free m hm em
def abf (P:Program) (C:Cx) (lp:Nat→Lp):Prop:=∀(nb:Nat) c ps n k s ex s',lp k (comp C ps c) s=some (ex,s')→dI n c=true→ ∀okB wB ρB hB,Inv C okB wB ρB hB→ag hB=k→ ∀ok w ρ a,Ext okB wB ρB hB ok w ρ s.h→SOk nb C ok w ρ ps n s a→na P c (j6 nb C okB wB ρB ps n hB ex s') a w
theorem abf.toLp {lp:Nat→Lp} (L:abf P C lp):agO P C (fun b s=>lp (ag s.h) b s):=fun nb c ps n s ex s' e hb ok w ρ a S=>
 L nb c ps n _ s ex s' e hb ok w ρ s.h S.inv rfl ok w ρ a (Ext.refl _ _ _ _) S
theorem ave {lp:Nat→Lp} (X:c7 P C) (H:dB P C run) (L:abf P C lp):abf P C (lpG C run lp):=by
 intro nb c ps n k s ex s' e hb okB wB ρB hB IB hk ok w ρ a B S;obtain ⟨⟨ex1,s1⟩,e1,e2⟩:=ai (show au (kx C run (fun b s=>lp (ag s.h) b s) (comp C ps c) s) (fun x=>Ex.rec (motive:=fun _=>Option (Ex×St)) (lp k (comp C ps c) (gcL k x.2)) (fun _=>some x) (some x) x.1)=some (ex,s') from e);refine lO (wp_mono (akg X H L.toLp c e1 hb S) ?_);rintro e a1 w1 ⟨rfl,ok1,ρ1,E1,S1⟩;have B1:=Ext.trans IB B E1
 cases ex1 with
 |nrm=>
  have e2:lp k (comp C ps c) (gcL k s1)=some (ex,s'):=e2;subst hk;obtain ⟨ρ2,E2,S2⟩:=avM IB B1 S1;exact L nb c ps n _ _ ex s' e2 hb okB wB ρB hB IB rfl ok1 w1 ρ2 a1 E2 S2
 |exit i=>cases e2;exact lV (by simp) ⟨rfl,ok1,ρ1,B1,S1⟩
 |ret=>cases e2;exact lV (by simp) ⟨rfl,ok1,ρ1,B1,S1⟩
theorem atS (X:c7 P C): ∀n,dB P C (rg C n).run∧abf P C (rg C n).lp
 |0=>⟨fun f args h r h' e=>(by cases e),fun nb c ps n k s ex s' e=>(by cases e)⟩
 |n+1=>by
  obtain ⟨h1,h2⟩:=atS X n;exact ⟨agh X h1 h2.toLp,ave X h1 h2⟩
theorem agv (X:c7 P C) (n:Nat):dB P C (asB C n):=(atS X n).1
end
def kindOf:TypeDesc→TK
 | .bool=>.bool
 | .int k=>.int k
 | .string=>.string
 | .pointer e=>.pointer e
 | .slice e=>.slice e
 | .array n e=>.array n e
 | .map k e=>.map k e
 | .struct F=>.struct (F.toList.map fun f=>(f.offset,f.type))
 | .func _ _ _=>.func
 | .interface _=>.iface
 |_=>.other
def zJ:IntKind→IntKind→Bool
 | .i8,.i8| .i16,.i16| .i32,.i32| .i64,.i64| .u8,.u8| .u16,.u16| .u32,.u32| .u64,.u64=>true
 |_,_=>false
def mF:List (Nat×Nat)→List (Nat×Nat)→Bool
 |[],[]=>true
 |a::r,b::s=>Nat.beq a.1 b.1&&Nat.beq a.2 b.2&&mF r s
 |_,_=>false
def TK.same:TK→TK→Bool
 | .bool,.bool| .string,.string| .func,.func| .iface,.iface=>true
 | .int k,.int l=>zJ k l
 | .pointer a,.pointer b| .slice a,.slice b=>Nat.beq a b
 | .array a b,.array c d| .map a b,.map c d=>Nat.beq a c&&Nat.beq b d
 | .struct a,.struct b=>mF a b
 |_,_=>false
theorem ad3 {a b:IntKind} (h:zJ a b=true):a=b:=by
 cases a<;>cases b<;>first|rfl|cases h
theorem sT: ∀{a b:List (Nat×Nat)},mF a b=true→a=b
 |[],[],_=>rfl
 |[],_::_,h=>by cases h
 |_::_,[],h=>by cases h
 |(x,y)::a,(z,u)::b,h=>by
  have h:(Nat.beq x z&&Nat.beq y u&&mF a b)=true:=h;simp only [Ba] at h;rw [A8 h.1.1,A8 h.1.2,sT h.2]
theorem asM {a b:TK} (h:TK.same a b=true):a=b∧b≠ .other:=by
 cases a<;>cases b<;>first
  |cases h;done
  |exact ⟨rfl,by simp⟩
  |exact ⟨by rw [ad3 (show zJ _ _=true from h)],by simp⟩
  |exact ⟨by rw [A8 (show Nat.beq _ _=true from h)],by simp⟩
  |exact ⟨by rw [sT (show mF _ _=true from h)],by simp⟩
  |exact ⟨by
   have h:(Nat.beq _ _&&Nat.beq _ _)=true:=h;rw [Ba] at h;rw [A8 h.1,A8 h.2],by simp⟩
theorem ah3 {d:TypeDesc} {k:TK} (h:kindOf d=k) (hk:k≠ .other):kg (some d) k:=by
 subst h
 cases d<;>simp_all [kindOf,kg]
def aggK:TK→Bool
 | .struct _| .array _ _=>true
 |_=>false
def au9:Value→Bool
 | .agg _=>true
 |_=>false
def ptrB (P:Program):TK→Bool
 | .pointer e=>(P.info? e).isSome
 |_=>true
noncomputable def aeJ (P:Program) (t:Nat) (ti:TI):Bool:=
 match P.info? t,P.underlying t with
 |some i,some d=>match i.zero with
  |some z=>TK.same (kindOf d) ti.kind&&(Nat.beq i.size ti.size&&Nat.beq i.bytes ti.bytes)&&(oC ti.agg (aggK ti.kind)&&oC ti.agg (au9 z))&&(AV.same (.agg (z.cells.toList.map cv)) (.agg ti.zero)&&Nat.beq (ag ti.zero) ti.size)&&(ti.agg||Nat.beq ti.size 1)&&ptrB P ti.kind
  |none=>false
 |_,_=>false
theorem alR {ok:Nat→Prop} {w:World} {ρ:Rho}: ∀l:List Value,VL ok w (l.map cv) ρ l
 |[]=>by simp [VL]
 |v::l=>by
  simp only [BS,VL];exact ⟨v,l,rfl,ano v,alR l⟩
theorem aaO {P:Program} {t:Nat} {ti:TI} (h:aeJ P t ti=true):dm P t ti∧(ti.agg=false→ti.size=1):=by
 unfold aeJ at h
 split at h
 ·rename_i i d hi hd
  split at h
  ·rename_i z hz
   simp only [Ba,lF,beq_iff_eq] at h;obtain ⟨⟨⟨⟨⟨h1,h2,h3⟩,h4,h5⟩,h6,h7⟩,h8⟩,h9⟩:=h;obtain ⟨k1,k2⟩:=asM h1;have h6:=fh _ _ h6;have h7:=A8 h7;rw [ah] at h7;refine ⟨⟨by rw [hd];exact ah3 k1 k2,?_,⟨i,z,hi,A8 h2,A8 h3,hz,fun ok w ρ=>by rw [←h6];exact alR _,fun ha=>?_,fun ha=>?_⟩,h7,fun e he=>?_⟩,fun ha=>?_⟩
   ·rw [h4];unfold aggK;cases ti.kind<;>rfl
   ·rw [ha] at h5
    cases z<;>first|cases h5;done|exact ⟨_,rfl⟩
   ·rw [ha] at h5
    cases z<;>first|cases h5;done|rfl
   ·rw [he] at h9
    exact CD.1 h9
   ·rw [ha,Bool.false_or] at h8
    exact A8 h8
  ·cases h
 ·cases h
def xK {α:Type} (f:Nat→α→Bool):BT α→Bool
 | .nl=>true
 | .lf k v=>f k v
 | .nd _ l r=>and (xK f l) (xK f r)
theorem uV {α:Type} {f:Nat→α→Bool}: ∀{t:BT α},xK f t=true→ ∀i v,tv t i=some v→f i v=true
 | .nl,_,i,v,e=>by cases e
 | .lf k u,h,i,v,e=>by
   have h:f k u=true:=h;have e:bq (Nat.beq i k) (some u) none=some v:=e;obtain ⟨e1,e2⟩:=aB e
   cases e2
   rw [A8 e1];exact h
 | .nd m l r,h,i,v,e=>by
   have h:and (xK f l) (xK f r)=true:=h;rw [Ba] at h;have e:bq (Nat.ble m i) (tv r i) (tv l i)=some v:=e
   cases hm:Nat.ble m i with
   |true=>rw [hm] at e;exact uV h.2 i v e
   |false=>rw [hm] at e;exact uV h.1 i v e
def jL {α:Type} (p:Nat→α→Prop):BT α→Prop
 | .nl=>True
 | .lf k v=>p k v
 | .nd _ l r=>jL p l∧jL p r
theorem jL.get {α:Type} {p:Nat→α→Prop}: ∀{t:BT α},jL p t→ ∀i v,tv t i=some v→p i v
 | .nl,_,i,v,e=>by cases e
 | .lf k u,h,i,v,e=>by
   have h:p k u:=h;have e:bq (Nat.beq i k) (some u) none=some v:=e;obtain ⟨e1,e2⟩:=aB e
   cases e2
   rw [A8 e1];exact h
 | .nd m l r,h,i,v,e=>by
   have h:jL p l∧jL p r:=h;have e:bq (Nat.ble m i) (tv r i) (tv l i)=some v:=e
   cases hm:Nat.ble m i with
   |true=>rw [hm] at e;exact jL.get h.2 i v e
   |false=>rw [hm] at e;exact jL.get h.1 i v e
end Go.Proofs.YtemmgalfdmnkoaaGreatDoor
