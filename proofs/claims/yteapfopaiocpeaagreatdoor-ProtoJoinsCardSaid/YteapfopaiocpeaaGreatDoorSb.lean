/- A reader of package scan: it takes bytes. -/
import Derived.Test.YteapfopaiocpeaaGreatDoorSa
namespace Go.Proofs.YteapfopaiocpeaaGreatDoor
set_option linter.unusedSimpArgs false
set_option linter.unusedVariables false
set_option linter.unnecessarySimpa false
set_option linter.defProp false
section
variable {mx:Int} {m:Nat} {K:RC} {kd:Nat→Nat} {h:AH} {p:Nat} {c:PC} {s:PR}
theorem ant (ty:Nat) {x:AV} {ds:List AV} (hx:dq h x ds) (hp:aR ds=true) (hl:ds.length≤1000000) (κ:Ka):eH ty 1 1 .nils x h κ=if ds=[] then κ .nils h else κ (.slo h.length 0 ds.length ds.length 1 false) (h++[some (.cells ds ty)]):=by
 unfold eH
 rw [hx.lO,aT,hx.elems,aT,hp,jr,ah,show Nat.mul ds.length 1=ds.length from Nat.mul_one _,decide_eq_true rfl]
 show uQ ty 1 1 ds.length ds .nils h κ=_
 unfold uQ
 by_cases h0:ds=[]
 ·subst h0;rfl
 ·have hne: ¬ds.length=0:=fun c=>h0 (List.length_eq_zero_iff.1 c)
  rw [if_neg h0,jr,decide_eq_false hne]
  have hr:jb 1 ds.length=true:=by
   unfold jb
   rw [bL,bL,decide_eq_true (by show ds.length*1≤_;omega),decide_eq_true (by omega)];rfl
  rw [hr]
  show κ (.slo (aj h) 0 ds.length ds.length 1 false) (aJ h [some (sK 1 ds.length ds ty)])=_
  rw [ah,aP];rfl
def TkP (m:Nat) (K:RC) (kd:Nat→Nat) (h:AH) (p:Nat) (c:PC) (t:List Nat×PR) (v:AV) (h':AH):Prop:=
 ∃kd' b0,iD h' (fun b=>b=b0) v t.1∧RS m K kd' h' p c t.2∧h.length≤h'.length∧(∀i,i<h.length→kd i=0→ae h' i=ae h i∧kd' i=0)∧cN kd' h'.length 0 b0=0∧h.length≤b0
theorem rR (R:RS m K kd h p c s) (W:Wf c s) {n a:Nat} (hn:n≤18446744073709551615) (ha:a≤c.data.length) (f:Nat):
 aG (fun r h'=>TkP m K kd h p c (s.take c n a) r h') ((rl (CL mx) (f+2)).run 176 [.pto p 0,.int 18446744073709551615 (n:Int),.int 9223372036854775807 (a:Int)] h):=by
 refine aG.runs (n:=f+1) (ajV mx _ _ _ _ _ _) ?_
 have hlen:=R.len
 have hinp:=R.inp
 have wat:=W.at_
 refine wEq (ahL ..) ?_
 refine bE (wE R f).call ?_
 rintro r h' ⟨rfl,rfl⟩
 have w1:aZ 9223372036854775807 ((4611686018427387904:Int)-(a:Int))=((4611686018427387904-a:Nat):Int):=by rw [bd (by omega) (by omega)];omega
 have w2:aZ 18446744073709551615 ((4611686018427387904-a:Nat):Int)=((4611686018427387904-a:Nat):Int):=gz (by omega) (by omega)
 have same: ∀{s':PR} {h2:AH},RS m K kd h2 p c s'→h2.length=h'.length→(∀i,kd i≠1→ae h2 i=ae h' i)→TkP m K kd h' p c ([],s') .nils h2:=fun R2 n2 f2=>
  ⟨cN kd h'.length 0,h'.length,.inl ⟨rfl,rfl⟩,by
   have:=R2.grow (h':=_) (Nat.le_refl _) (fun i _=>rfl)
   rw [n2] at this;exact this,by omega,fun i hi h0=>⟨f2 i (by rw [h0];decide),by rw [bR hi];exact h0⟩,fP (by omega),Nat.le_refl _⟩
 by_cases c1:4611686018427387904-a<n
 ·have g1:decide (((4611686018427387904-a:Nat):Int)<(n:Int))=true:=by rw [decide_eq_true_iff];omega
  simp only [sy,List.length_append,Nat.reduceAdd,Nat.reduceMul,Nat.reduceSub,Nat.reduceLeDiff,Nat.reduceEqDiff,Nat.reduceLT,reduceIte,w1,w2,g1]
  refine bE (eM R 214 a f).call ?_
  rintro r h2 ⟨rfl,R2,n2,f2⟩
  simp only [sy,List.length_append,Nat.reduceAdd,Nat.reduceMul,Nat.reduceSub,Nat.reduceLeDiff,Nat.reduceEqDiff,Nat.reduceLT,reduceIte,pM]
  refine Ends.mk ?_
  unfold PR.take
  rw [if_pos c1]
  exact same R2 n2 f2
 ·have g1:decide (((4611686018427387904-a:Nat):Int)<(n:Int))=false:=by rw [decide_eq_false_iff_not];omega
  obtain ⟨stp,y,sl,st,ct,cl,QQ,hp,o2,o3,ok,o4,o5⟩:=R.ex
  have hp':=hp
  unfold rdL at hp'
  have hpl:=aO hp
  have ld:=fun κ=>R.dat.at.bH h' κ
  rw [bW] at ld
  have w3:aZ 9223372036854775807 ((c.data.length:Int)-(s.at_:Int))=((c.data.length-s.at_:Nat):Int):=by rw [bd (by omega) (by omega)];omega
  have w4:aZ 18446744073709551615 ((c.data.length-s.at_:Nat):Int)=((c.data.length-s.at_:Nat):Int):=gz (by omega) (by omega)
  by_cases c2:c.data.length-s.at_<n
  ·have g2:decide (((c.data.length-s.at_:Nat):Int)<(n:Int))=true:=by rw [decide_eq_true_iff];omega
   have g3:decide ((K.inp:Int)<(c.data.length:Int))=false:=by rw [decide_eq_false_iff_not];omega
   simp only [sy,List.length_append,Nat.reduceAdd,Nat.reduceMul,Nat.reduceSub,Nat.reduceLeDiff,Nat.reduceEqDiff,Nat.reduceLT,reduceIte,w1,w2,g1,rC,rA,rD,qV,qO,qL,agi,ab8,acG,abm,hp',n64,ld,w3,w4,g2,g3]
   refine bE (eM R 10 c.data.length f).call ?_
   rintro r h2 ⟨rfl,R2,n2,f2⟩
   simp only [sy,List.length_append,Nat.reduceAdd,Nat.reduceMul,Nat.reduceSub,Nat.reduceLeDiff,Nat.reduceEqDiff,Nat.reduceLT,reduceIte,pM]
   refine Ends.mk ?_
   unfold PR.take
   rw [if_neg c1,if_pos c2]
   exact same R2 n2 f2
  ·have g2:decide (((c.data.length-s.at_:Nat):Int)<(n:Int))=false:=by rw [decide_eq_false_iff_not];omega
   have w5:aZ 9223372036854775807 ((K.inp:Int)-(s.at_:Int))=((K.inp-s.at_:Nat):Int):=by rw [bd (by omega) (by omega)];omega
   have w6:aZ 18446744073709551615 ((K.inp-s.at_:Nat):Int)=((K.inp-s.at_:Nat):Int):=gz (by omega) (by omega)
   have g3:decide (((K.inp-s.at_:Nat):Int)<(n:Int))=false:=by rw [decide_eq_false_iff_not];omega
   have w7:aZ 9223372036854775807 (n:Int)=(n:Int):=bd (by omega) (by omega)
   have w8:aZ 9223372036854775807 ((s.at_:Int)+(n:Int))=((s.at_+n:Nat):Int):=by rw [bd (by omega) (by omega)];simp
   obtain ⟨v',hv,sv⟩:=R.dat.cut (l:=s.at_) (u:=s.at_+n) (by omega) (by rw [bW];omega) 9223372036854775807 9223372036854775807
   rw [Nat.add_sub_cancel_left,aaS,aau] at sv
   have hdl:((c.data.drop s.at_).take n).length=n:=by rw [List.length_take,List.length_drop];omega
   have ap:=fun κ=>ant (h:=h') (κ:=κ) (5+1) sv (jY _) (by rw [bW,hdl];omega)
   have hT:s.take c n a=((c.data.drop s.at_).take n,{s with at_:=s.at_+n}):=by unfold PR.take;rw [if_neg c1,if_neg c2]
   have upd: ∀{hh:AH} {kk:Nat→Nat},RS m K kk hh p c s→RS m K kk hh p c s:=fun x=>x
   by_cases h0:n=0
   ·have hb0:aS ((c.data.drop s.at_).take n)=[]:=by rw [h0];rfl
    simp only [if_pos hb0] at ap
    have ble:Nat.ble (aj h') (aj h')=true:=by rw [bL];simp
    simp only [sy,List.length_append,Nat.reduceAdd,Nat.reduceMul,Nat.reduceSub,Nat.reduceLeDiff,Nat.reduceEqDiff,Nat.reduceLT,reduceIte,w1,w2,g1,rC,rA,rD,qV,xz,xC,qO,qL,hp',n64,ld,w3,w4,w5,w6,w7,w8,g2,g3,hv,ap,ble,pM]
    have R2:=(R.upd (s':={s with at_:=s.at_+n}) (stp':=stp) (y':=y) o2 o3 ok o4 o5)
    have R3:=R2.grow (Nat.le_refl _) (fun i _=>rfl)
    rw [List.length_set] at R3
    refine Ends.mk ⟨cN kd h'.length 0,h'.length,by rw [hT,h0];exact .inl ⟨rfl,rfl⟩,by rw [hT];exact R3,by rw [List.length_set];exact Nat.le_refl _,fun i hi h0'=>⟨ai (R.iI h0') _,by rw [bR hi];exact h0'⟩,fP (by rw [List.length_set];exact Nat.le_refl _),Nat.le_refl _⟩
   ·have hb0:aS ((c.data.drop s.at_).take n)≠[]:=fun cc=>by
     have:=congrArg List.length cc
     rw [bW,hdl] at this
     exact h0 this
    simp only [if_neg hb0,bW,hdl] at ap
    have ble:Nat.ble (aj h') (aj (h'++[some (Blk.cells (aS ((c.data.drop s.at_).take n)) (5+1))]))=true:=by rw [bL,ah,ah];simp
    have R1:=R.grow (h':=h'++[some (Blk.cells (aS ((c.data.drop s.at_).take n)) (5+1))]) (by simp) (fun i hi=>aq hi _)
    have hz:=aI h' (some (Blk.cells (aS ((c.data.drop s.at_).take n)) (5+1)))
    have hpo:ae (h'++[some (Blk.cells (aS ((c.data.drop s.at_).take n)) (5+1))]) p=ae h' p:=aq hpl _
    have fo: ∀i,i<h'.length→ae (h'++[some (Blk.cells (aS ((c.data.drop s.at_).take n)) (5+1))]) i=ae h' i:=fun i hi=>aq hi _
    have hl1:(h'++[some (Blk.cells (aS ((c.data.drop s.at_).take n)) (5+1))]).length=h'.length+1:=by simp
    generalize h'++[some (Blk.cells (aS ((c.data.drop s.at_).take n)) (5+1))]=h1 at*
    obtain ⟨stp1,y1,sl1,st1,ct1,cl1,QQ1,hp1,q2,q3,qk,q4,q5⟩:=R1.ex
    have hp1':=hp1
    unfold rdL at hp1'
    simp only [sy,List.length_append,Nat.reduceAdd,Nat.reduceMul,Nat.reduceSub,Nat.reduceLeDiff,Nat.reduceEqDiff,Nat.reduceLT,reduceIte,w1,w2,g1,rC,rA,rD,qV,xz,xC,qO,qL,hp',n64,ld,w3,w4,w5,w6,w7,w8,g2,g3,hv,ap,ble,hp1',pM]
    have R2:=(R1.upd (s':={s with at_:=s.at_+n}) (stp':=stp1) (y':=y1) q2 q3 qk q4 q5)
    have k0:cN kd h'.length 0 h'.length=0:=fP (Nat.le_refl _)
    refine Ends.mk ⟨cN kd h'.length 0,h'.length,?_,by rw [hT];exact R2,by rw [List.length_set];omega,fun i hi h0'=>⟨?_,by rw [bR hi];exact h0'⟩,by rw [List.length_set,hl1,bR (by omega)];exact k0,Nat.le_refl _⟩
    ·rw [hT]
     refine .inr ⟨fun cc=>hb0 (by rw [show (c.data.drop s.at_).take n=[] from cc];rfl),h'.length,false,(5+1),by rw [hdl],rfl,?_⟩
     rw [ai (fun cc=>by have:=R1.kp;rw [cc,k0] at this;cases this)];exact hz
    ·rw [ai (R.iI h0'),fo i hi]
theorem TkP.nx {t:List Nat×PR} {v:AV} {h':AH} (T:TkP m K kd h p c t v h'):Nx h.length m K kd h p c t.2 h':=by
 obtain ⟨kd',b0,d,R,l,f,_⟩:=T
 exact ⟨kd',R,l,f⟩
theorem take_one (c:PC) (s:PR) (ha:s.at_≤1000000):s.take c 1 s.at_=(match c.data[s.at_]? with|none=>([],s.bh 10 c.data.length)|some b=>([b],{s with at_:=s.at_+1})):=by
 unfold PR.take
 rw [if_neg (by omega)]
 cases e:c.data[s.at_]? with
 |none=>
  have:=List.getElem?_eq_none_iff.1 e
  rw [if_pos (by omega)]
 |some b=>
  have hlt:=(List.getElem?_eq_some_iff.1 e).1
  rw [if_neg (by omega)]
  have:(c.data.drop s.at_).take 1=[b]:=by
   obtain ⟨A,B,h1,h2⟩:=j7 e
   rw [h1,←h2,List.drop_left];rfl
  rw [this]
theorem aa1 (R:RS m K kd h p c s) (f:Nat):aD (CL mx) (rl (CL mx) (f+1)).run 178 [.pto p 0] h=some (.int 9223372036854775807 4611686018427387904,h):=by
 obtain ⟨r,h2,el,er,eh⟩:=aG.call (C:=CL mx) (wE (mx:=mx) R f)
 rw [er,eh] at el;exact el
theorem eC (R:RS m K kd h p c s) (f:Nat):aD (CL mx) (rl (CL mx) (f+1)).run 112 [.pto p 0] h=some (.bool (decide (s.code=0)),h):=by
 obtain ⟨r,h2,el,er,eh⟩:=aG.call (C:=CL mx) (aje (mx:=mx) R f)
 rw [er,eh] at el;exact el
theorem wX (R:RS m K kd h p c s) (W:Wf c s) {a:Nat} (f:Nat):
 aG (fun r h'=>r= .int 255 ((s.byte c).1:Int)∧Nx h.length m K kd h p c (s.byte c).2 h') ((rl (CL mx) (f+3)).run 224 [.pto p 0,.int 9223372036854775807 (a:Int)] h):=by
 refine aG.runs (n:=f+2) (amV mx _ _ _ _ _) ?_
 have hlen:=R.len
 have wat:=W.at_
 obtain ⟨stp,y,sl,st,ct,cl,QQ,hp,o2,o3,ok,o4,o5⟩:=R.ex
 have hp':=hp
 unfold rdL at hp'
 have hpl:=aO hp
 have el:=aa1 (mx:=mx) R (f+1)
 have g1:decide ((s.at_:Int)=4611686018427387904)=false:=by rw [decide_eq_false_iff_not];omega
 have ltp: ∀j,AV.lt (aj h) (.pto p j)=true:=fun j=>by rw [gH,ah,decide_eq_true_iff];exact hpl
 have lti: ∀(k:Nat) (x:Int),AV.lt (aj h) (.int k x)=true:=fun k x=>rfl
 simp only [sy,List.length_append,Nat.reduceAdd,Nat.reduceMul,Nat.reduceSub,Nat.reduceLeDiff,Nat.reduceEqDiff,Nat.reduceLT,reduceIte,agF,afF,agl,afV,ag5,fN,ij,fV,hp',n64,el,g1,cT,ji,o1,nq,mz,j2,jU,adf,cV,ltp,lti,fB]
 refine bE (rR R W (n:=1) (a:=s.at_) (by omega) wat f).call ?_
 intro r h' T
 have ht:=take_one c s (by omega)
 have nx:=T.nx
 obtain ⟨kd',b0,hd,R',l',f',_⟩:=T
 rw [ht] at hd nx
 unfold PR.byte
 cases e:c.data[s.at_]? with
 |none=>
  rw [e] at hd nx
  rcases hd with ⟨_,rfl⟩|⟨c0,_⟩
  ·simp only [sy,List.length_append,Nat.reduceAdd,Nat.reduceMul,Nat.reduceSub,Nat.reduceLeDiff,Nat.reduceEqDiff,Nat.reduceLT,reduceIte,decide_true,aaU]
   exact Ends.mk ⟨rfl,nx⟩
  ·exact absurd rfl c0
 |some b=>
  rw [e] at hd nx
  rcases hd with ⟨c0,_⟩|⟨_,b1,e1,y1,rfl,_,hb⟩
  ·cases c0
  ·have hb':ae h' b1=some (.cells [.int 255 (b:Int)] y1):=hb
   have g2:decide ((1:Int)=0)=false:=by decide
   have le: ∀κ:Ka,bH (.slo b1 0 ([b]:List Nat).length ([b]:List Nat).length 1 e1) h' κ=κ (.int 9223372036854775807 1) h':=fun κ=>rfl
   have ix: ∀κ:Ka,bT 1 (.slo b1 0 ([b]:List Nat).length ([b]:List Nat).length 1 e1) (.int 9223372036854775807 0) h' κ=κ (.pto b1 0) h':=fun κ=>by
    have:=rM (h:=h') (κ:=κ) 1 b1 0 1 1 e1 9223372036854775807 0
    exact this
   simp only [show ([b]:List Nat).length=1 from rfl] at ix le ⊢
   simp only [sy,Nat.reduceAdd,Nat.reduceMul,Nat.reduceSub,Nat.reduceLeDiff,Nat.reduceEqDiff,Nat.reduceLT,reduceIte,le,g2,ix,hb',aaU]
   exact Ends.mk ⟨rfl,nx⟩
end
end Go.Proofs.YteapfopaiocpeaaGreatDoor
