/- A reader of package scan: what is told at the end. -/
import Derived.Test.YteapfopaiocpeaaGreatDoorSu
namespace Go.Proofs.YteapfopaiocpeaaGreatDoor
set_option linter.unusedSimpArgs false
set_option linter.unusedVariables false
set_option linter.unnecessarySimpa false
set_option linter.defProp false
section
variable {mx:Int} {m:Nat} {K:RC} {kd:Nat→Nat} {h:AH} {p:Nat} {c:PC} {s:PR}
theorem mU (place:Nat→Option (Nat×Nat)) (z:List AV) (h:AH) (κ:Ka):gU place z [] h κ=κ (.agg z) h:=eB rfl
theorem bU {n b y:Nat} {cs q:List AV} (hb:ae h b=some (.cells cs y)) (hc:cs.length=n) (hq:q.length=n) (hp:aR q=true) (κ:Ka):aK n (.pto b 0) (.agg q) h κ=κ (.tup []) (h.set b (some (.cells q y))):=by
 rw [pQ,hb,aT,decide_eq_true hq,hp]
 show bq (decide (0+q.length≤cs.length)) (κ (.tup []) (h.set b (some (.cells (cs.take 0++(q++cs.drop (0+q.length))) y)))) none=_
 rw [bf (by omega),List.take_zero,Nat.zero_add,List.drop_of_length_le (by omega),List.nil_append,List.append_nil]
theorem bS {n b y:Nat} {q:List AV} (hb:ae h b=some (.cells q y)) (hq:q.length=n) (κ:Ka):aQ n (.pto b 0) h κ=κ (.agg q) h:=by
 rw [kT,hb,aT]
 show bq (decide (0+n≤q.length)) (κ (.agg ((q.drop 0).take n)) h) none=_
 rw [bf (by omega),List.drop_zero,←hq,List.take_length]
def PR.rest (c:PC) (s:PR):PR:=if s.code=0∧s.at_<c.data.length then s.bh 216 s.at_ else s
def ScR (n0:Nat) (h:AH) (F:PR) (x:AV) (h':AH):Prop:=
 n0≤h'.length∧(∀i,i<n0→ae h' i=ae h i)∧ ∃stp:Int,
  (F.code≠0∧x= .tup [.agg ZT,.int 9223372036854775807 stp,.agg [N64 F.code,N64 F.fat]])∨
  (F.code=0∧ ∃n b d t0 ks q0,F.stack=[.nd n b d (t0::ks)]∧x= .tup [.agg q0,.int 9223372036854775807 stp,.agg [N64 0,N64 0]]∧fK h' (fun b=>n0≤b) q0 t0)
theorem anv {n0 b6 b8 y6 y8:Nat} {lp:Lp} {v0 v2 v5 v7 v9 v11 v46 v67 v76:AV} {c6 c8:List AV} (R:RS m K kd h p c s) (W:s.at_≤1000000000) (h6:ae h b6=some (.cells c6 y6)) (l6:c6.length=4) (h8:ae h b8=some (.cells c8 y8)) (l8:c8.length=2) (k6:kd b6=0) (k8:kd b8=0) (h68:b6≠b8) (n6:n0≤b6) (n8:n0≤b8) (hn0:n0≤h.length) (hk: ∀i,i<n0→kd i=0)
 (hst:(s.rest c).code=0→ ∃n b d t0 ks,s.stack=[.nd n b d (t0::ks)]) (f:Nat):
 Ends (ScR n0 h (s.rest c)) (kc (CL mx) (rl (CL mx) (f+3)).run lp (abp mx) ⟨bc v0 K.dv v2 v5 (.pto b6 0) v7 (.pto b8 0) v9 (.pto p 0) v11 v46 v67 v76,h⟩ (kcE (CL mx) [.cell 6 69,.tmp 7,.cell 8 27]) (kcQ (CL mx) [.cell 6 69,.tmp 7,.cell 8 27])):=by
 have okc:=eC (mx:=mx) R (f+2)
 have hlen:=R.len
 have len:=fun κ=>R.dat.at.bH h κ
 rw [bW] at len
 refine wEq (afJ ..) ?_
 have A: ∀(h1:AH) (F:PR) (v67:AV),RS m K kd h1 p c F→h1.length=h.length→(∀i,kd i≠1→ae h1 i=ae h i)→(F.code=0→ ∃n b d t0 ks,F.stack=[.nd n b d (t0::ks)])→Ends (ScR n0 h F) (kc (CL mx) (rl (CL mx) (f+3)).run lp (adt mx) ⟨bc v0 K.dv v2 v5 (.pto b6 0) v7 (.pto b8 0) v9 (.pto p 0) v11 v46 v67 v76,h1⟩ (kcE (CL mx) [.cell 6 69,.tmp 7,.cell 8 27]) (kcQ (CL mx) [.cell 6 69,.tmp 7,.cell 8 27])):=by
  intro h1 F v67 R1 n1 f1 hF
  have okc:=eC (mx:=mx) R1 (f+2)
  obtain ⟨stp,y,sl,st,ct,cl,QQ,hp,o2,o3,ok,o4,o5⟩:=R1.ex
  have hp':=hp
  unfold rdL at hp'
  have hpl:=aO hp
  have e6:ae h1 b6=some (.cells c6 y6):=by rw [f1 _ (by rw [k6];decide)];exact h6
  have e8:ae h1 b8=some (.cells c8 y8):=by rw [f1 _ (by rw [k8];decide)];exact h8
  have ltp: ∀j,AV.lt (aj h1) (.pto p j)=true:=fun j=>by rw [gH,ah,decide_eq_true_iff];exact hpl
  have lti: ∀(k:Nat) (x:Int),AV.lt (aj h1) (.int k x)=true:=fun k x=>rfl
  have kp:=R1.kp
  have p6:p≠b6:=R1.iI k6
  have p8:p≠b8:=R1.iI k8
  have fin: ∀{q6 q8:List AV} {x:AV},(∀h',h'=(h1.set b6 (some (.cells q6 y6))).set b8 (some (.cells q8 y8))→n0≤h'.length∧ ∀i,i<n0→ae h' i=ae h i):=fun {q6 q8 x} h' e=>by
   subst e
   refine ⟨by rw [List.length_set,List.length_set];omega,fun i hi=>?_⟩
   rw [ai (by omega),ai (by omega),f1 i (by rw [hk i hi];decide)]
  have sv: ∀(q6 q8:List AV),q6.length=4→aR q6=true→q8.length=2→aR q8=true→ ∃P6 P8 h2 h3,P6=AV.pto b6 0∧P8=AV.pto b8 0∧h3=(h1.set b6 (some (.cells q6 y6))).set b8 (some (.cells q8 y8))∧h2.length=h1.length∧cF (aj h1) h2=h2∧decide (h1.length≤h2.length)=true∧decide (h2.length≤h3.length)=true∧(∀i,i≠b6→ae h2 i=ae h1 i)∧
   (∀κ:Ka,aK 4 P6 (.agg q6) h1 κ=κ (.tup []) h2)∧(∀κ:Ka,aK 2 P8 (.agg q8) h2 κ=κ (.tup []) h3)∧(∀κ:Ka,aQ 4 P6 h3 κ=κ (.agg q6) h3)∧(∀κ:Ka,aQ 2 P8 h3 κ=κ (.agg q8) h3):=by
   intro q6 q8 a1 a2 a3 a4
   refine ⟨_,_,h1.set b6 (some (.cells q6 y6)),_,rfl,rfl,rfl,List.length_set,?_,by simp,by simp,fun i hi=>ai (Ne.symm hi) _,fun κ=>bU e6 l6 a1 a2 κ,fun κ=>bU (by rw [ai h68];exact e8) l8 a3 a4 κ,fun κ=>bS (y:=y6) ?_ a1 κ,fun κ=>bS (y:=y8) ?_ a3 κ⟩
   ·rw [show aj h1=aj (h1.set b6 (some (.cells q6 y6))) by rw [ah,ah,List.length_set],cT]
   ·rw [ai (Ne.symm h68),az (aO e6)]
   ·rw [az (by rw [List.length_set];exact aO e8)]
  by_cases hc:F.code=0
  ·obtain ⟨n,b,d,t0,ks,e⟩:=hF hc
   rw [e] at ok
   obtain ⟨qr,rfl⟩: ∃q,QQ=[q]:=by
    match QQ,ok with
    |[q],_=>exact ⟨q,rfl⟩
    |_::_::_,x=>exact x.2.elim
   have T:=ok.1
   unfold fK at T
   obtain ⟨dv,kv,hq,hd,hks⟩:=T
   have hr1:([qr]:List (List AV)).reverse=[qr]:=rfl
   rw [hr1] at o3
   obtain ⟨br,hbr,el⟩:=o3.el (i:=0) (q:=qr) rfl
   rcases hks with ⟨cc,_⟩|⟨kb,ee,rows,yk,rfl,hkb,hkc,hks⟩
   ·cases cc
   obtain ⟨hrl,hr4⟩:=cw.rows hks
   unfold cw at hks
   obtain ⟨q0,rr,rfl,T0,_⟩:=hks
   have ob:OwB h1 4 (.slo kb 0 (t0::ks).length (t0::ks).length 4 ee) (q0::rr) kb (t0::ks).length ee [] yk:=⟨by rw [hrl],by rw [List.append_nil];exact hkc,by rw [hrl];exact Nat.le_refl _,by rw [jM hr4,hrl];rfl⟩
   have el0:=ob.el hr4 (i:=0) (q:=q0) rfl
   obtain ⟨P0,hP0⟩: ∃P,P=AV.pto br (0*4):=⟨_,rfl⟩
   obtain ⟨M3,hM3⟩: ∃P,P=AV.pto br (0*4+3):=⟨_,rfl⟩
   obtain ⟨Pk,hPk⟩: ∃P,P=AV.pto kb (0*4):=⟨_,rfl⟩
   obtain ⟨kv,hkv⟩: ∃v,v=AV.slo kb 0 (t0::ks).length (t0::ks).length 4 ee:=⟨_,rfl⟩
   have ix: ∀(k:Nat) (h':AH) (κ:Ka),bT 4 st (.int k 0) h' κ=κ P0 h':=fun k h' κ=>by rw [hP0];exact el.idx k h' κ
   have mv: ∀(h':AH) (κ:Ka),ao 3 P0 h' κ=κ M3 h':=fun h' κ=>by rw [hP0,hM3];rfl
   have ld: ∀κ:Ka,ar M3 h1 κ=κ kv h1:=fun κ=>by rw [hM3,hkv];exact el.ld1 3 _ (by rw [hq];rfl) κ
   have ik: ∀(k:Nat) (h':AH) (κ:Ka),bT 4 kv (.int k 0) h' κ=κ Pk h':=fun k h' κ=>by rw [hPk,hkv];exact el0.idx k h' κ
   have lk: ∀κ:Ka,aQ 4 Pk h1 κ=κ (.agg q0) h1:=fun κ=>by rw [hPk];exact el0.ldG κ
   have q0l:=T0.four
   obtain ⟨P6,P8,h2,h3,hP6,hP8,hh3,l2,gs,g1,g2,fr2,s6,s8,d6,d8⟩:=sv q0 [N64 0,N64 0] q0l.1 q0l.2 rfl rfl
   obtain ⟨m1,m2⟩:=fin (x:=.bot) h3 hh3
   have hp2:=(fr2 p p6).trans hp'
   rw [←hP6,←hP8]
   have s8: ∀κ:Ka,aK 2 P8 (.agg [.int 9223372036854775807 0,.int 9223372036854775807 0]) h2 κ=κ (.tup []) h3:=s8
   have d8: ∀κ:Ka,aQ 2 P8 h3 κ=κ (.agg [.int 9223372036854775807 0,.int 9223372036854775807 0]) h3:=d8
   have ltl: ∀(k:Nat) (a:Int) (k':Nat) (b:Int),ltL (aj h1) [.int k a,.int k' b]=true:=fun _ _ _ _=>rfl
   have lta: ∀(k:Nat) (a:Int) (k':Nat) (b:Int),AV.lt (aj h1) (.agg [.int k a,.int k' b])=true:=fun _ _ _ _=>rfl
   have epn: ∀(σ:List AV) (t:Tms),evP (CL mx) σ t []=[]:=fun _ _=>rfl
   simp only [sy,List.length_append,Nat.reduceAdd,Nat.reduceMul,Nat.reduceSub,Nat.reduceLeDiff,Nat.reduceEqDiff,Nat.reduceLT,reduceIte,xt,wS,afZ,okc,decide_eq_true hc,abV,fN,ij,fV,mU,hp',hp2,n64,ix,mv,ld,ik,lk,s6,s8,g1,g2,gs,ji,o1,nq,mz,j2,jU,sE,cV,cT,ltp,lti,ltl,lta,zc,epn,Bool.true_and,fB,ac8,zr,d6,d8]
   refine Ends.mk ⟨m1,m2,stp,.inr ⟨hc,n,b,d,t0,ks,q0,e,rfl,T0.mono t0 fun j hj hs=>?_⟩⟩
   have hs:kd j=6:=hs.1
   have j0:n0≤j:=by
    refine Nat.le_of_not_lt fun cc=>?_
    rw [hk j cc] at hs;cases hs
   refine ⟨j0,?_⟩
   rw [hh3,ai (fun cc=>by rw [←cc,k8] at hs;cases hs),ai (fun cc=>by rw [←cc,k6] at hs;cases hs)]
  ·obtain ⟨P6,P8,h2,h3,hP6,hP8,hh3,l2,gs,g1,g2,fr2,s6,s8,d6,d8⟩:=sv ZT [N64 F.code,N64 F.fat] rfl rfl rfl rfl
   obtain ⟨m1,m2⟩:=fin (x:=.bot) h3 hh3
   have hp2:=(fr2 p p6).trans hp'
   rw [←hP6,←hP8]
   have ltl: ∀(k:Nat) (a:Int) (k':Nat) (b:Int),ltL (aj h1) [.int k a,.int k' b]=true:=fun _ _ _ _=>rfl
   have ZT':ZT=[.int 18446744073709551615 0,.bool false,.nils,.nils]:=rfl
   rw [ZT'] at s6 d6
   rw [n64,n64] at s8 d8
   simp only [sy,List.length_append,Nat.reduceAdd,Nat.reduceMul,Nat.reduceSub,Nat.reduceLeDiff,Nat.reduceEqDiff,Nat.reduceLT,reduceIte,xt,wS,okc,decide_eq_false hc,acd,fN,ij,fV,mU,hp',hp2,n64,List.drop_succ_cons,List.drop_zero,List.take_succ_cons,List.take_zero,s6,s8,g1,g2,gs,ji,o1,nq,mz,j2,jU,sE,cV,cT,ltp,lti,Bool.true_and,fB,adh,zr,d6,d8,ltl]
   exact Ends.mk ⟨m1,m2,stp,.inl ⟨hc,rfl⟩⟩
 obtain ⟨stp,y,sl,st,ct,cl,QQ,hp,o2,o3,ok,o4,o5⟩:=R.ex
 have hp':=hp
 unfold rdL at hp'
 by_cases h0:s.code=0
 ·by_cases hr:s.at_<c.data.length
  ·have g:decide ((s.at_:Int)<(c.data.length:Int))=true:=by rw [decide_eq_true_iff];omega
   have e:s.rest c=s.bh 216 s.at_:=if_pos ⟨h0,hr⟩
   rw [e] at hst ⊢
   simp only [sy,List.length_append,Nat.reduceAdd,Nat.reduceMul,Nat.reduceSub,Nat.reduceLeDiff,Nat.reduceEqDiff,Nat.reduceLT,reduceIte,q9,okc,decide_eq_true h0,hp',n64,len,g]
   refine bE (eM R 216 s.at_ (f+2)).call ?_
   rintro x h1 ⟨rfl,R1,n1,f1⟩
   exact A h1 _ _ R1 n1 f1 (fun e=>by rw [(jI s 216 s.at_).1];exact hst e)
  ·have g:decide ((s.at_:Int)<(c.data.length:Int))=false:=by rw [decide_eq_false_iff_not];omega
   have e:s.rest c=s:=if_neg fun cc=>hr cc.2
   rw [e] at hst ⊢
   simp only [sy,List.length_append,Nat.reduceAdd,Nat.reduceMul,Nat.reduceSub,Nat.reduceLeDiff,Nat.reduceEqDiff,Nat.reduceLT,reduceIte,q9,okc,decide_eq_true h0,hp',n64,len,g]
   exact A h _ _ R rfl (fun i _=>rfl) hst
 ·have e:s.rest c=s:=if_neg fun cc=>h0 cc.1
  rw [e] at hst ⊢
  simp only [sy,List.length_append,Nat.reduceAdd,Nat.reduceMul,Nat.reduceSub,Nat.reduceLeDiff,Nat.reduceEqDiff,Nat.reduceLT,reduceIte,q9,okc,decide_eq_false h0]
  exact A h _ _ R rfl (fun i _=>rfl) hst
end
end Go.Proofs.YteapfopaiocpeaaGreatDoor
