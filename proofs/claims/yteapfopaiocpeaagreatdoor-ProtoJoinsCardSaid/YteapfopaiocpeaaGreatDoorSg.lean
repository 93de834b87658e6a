/- A reader of package scan: a number's step. -/
import Derived.Test.YteapfopaiocpeaaGreatDoorSe
namespace Go.Proofs.YteapfopaiocpeaaGreatDoor
set_option linter.unusedSimpArgs false
set_option linter.unusedVariables false
set_option linter.unnecessarySimpa false
set_option linter.defProp false
section
variable {mx:Int} {m:Nat} {K:RC} {kd:Nat→Nat} {h:AH} {p:Nat} {c:PC} {s:PR}
theorem pc (c:PC) (s:PR):(s.open_ c).stack= .nd 0 false [] []::s.stack:=rfl
theorem oQ (c:PC) (s:PR):(s.open_ c).slots=s.slots:=by
 unfold PR.open_ PR.bh
 split
 ·split<;>rfl
 ·split
  ·split<;>rfl
  ·rfl
theorem aaO (c:PC) (s:PR):(s.open_ c).counts=s.counts:=by
 unfold PR.open_ PR.bh
 split
 ·split<;>rfl
 ·split
  ·split<;>rfl
  ·rfl
theorem uL (c:PC) (s:PR) (n a:Nat):(s.take c n a).2.slots=s.slots∧(s.take c n a).2.stack=s.stack∧(s.take c n a).1.length≤n:=by
 unfold PR.take PR.bh
 split
 ·split<;>exact ⟨rfl,rfl,Nat.zero_le _⟩
 ·split
  ·split<;>exact ⟨rfl,rfl,Nat.zero_le _⟩
  ·exact ⟨rfl,rfl,by rw [List.length_take];omega⟩
theorem adr (c:PC) (s:PR) (n a:Nat) (hb: ∀b∈c.data,b<256): ∀b∈(s.take c n a).1,b<256:=by
 unfold PR.take
 split
 ·intro b hb';simp at hb'
 ·split
  ·intro b hb';simp at hb'
  ·intro b hb';exact hb b (List.mem_of_mem_drop (List.mem_of_mem_take hb'))
theorem qq (c:PC) (len:Bool): ∀(k acc cnt:Nat) (s:PR),(s.cC c len k acc cnt).2.slots=s.slots∧(s.cC c len k acc cnt).2.stack=s.stack
 |0,acc,cnt,s=>⟨rfl,rfl⟩
 |k+1,acc,cnt,s=>by
  have hb:(s.byte c).2.slots=s.slots∧(s.byte c).2.stack=s.stack:=by
   unfold PR.byte PR.bh
   cases c.data[s.at_]? with
   |none=>dsimp only;split<;>exact ⟨rfl,rfl⟩
   |some b=>exact ⟨rfl,rfl⟩
  have hw: ∀e a,((s.byte c).2.bh e a).slots=(s.byte c).2.slots∧((s.byte c).2.bh e a).stack=(s.byte c).2.stack:=fun e a=>by
   unfold PR.bh;split<;>exact ⟨rfl,rfl⟩
  have ih:=qq c len k (acc+(s.byte c).1%128*128^cnt) (cnt+1) (s.byte c).2
  unfold PR.cC
  split
  ·exact ⟨rfl,rfl⟩
  ·split
   ·exact hb
   ·split
    ·exact ⟨(hw _ _).1.trans hb.1,(hw _ _).2.trans hb.2⟩
    ·split
     ·exact ⟨ih.1.trans hb.1,ih.2.trans hb.2⟩
     ·split
      ·exact ⟨(hw _ _).1.trans hb.1,(hw _ _).2.trans hb.2⟩
      ·exact hb
theorem ahq (R:RS m K kd h p c s) (W:Wf c s) (W1:Wf c (s.open_ c)) {q:PS} {wv:AV} {bs:List AV} (hbs:(stC q wv bs).length=265) (hpl:aR (stC q wv bs)=true) (hk:(q.kind=3∧1≤q.a∧q.a≤8)∨(q.kind=4∧q.flag=true)) (hb:q.b<(s.slots.length:Int))
 {u:PT} {r:List PT} (hs:s.stack=u::r) (hlen:r.length≤90000) (hkids: ∀n b d ks,u= .nd n b d ks→ks.length≤90000∧d=[]) (f:Nat):
 aG (fun x h'=>x= .tup []∧Nx h.length m K kd h p c (s.number c q) h') ((rl (CL mx) (f+40)).run 172 [.pto p 0,.agg (stC q wv bs)] h):=by
 refine aG.runs (n:=f+39) (ake mx _ _ _ _ _) ?_
 have hz:=aI h (some (Blk.cells (stC q wv bs) (308+1)))
 have R0:=R.grow (h':=h++[some (Blk.cells (stC q wv bs) (308+1))]) (by simp) (fun i hi=>aq hi _)
 have bx: ∀κ:Ka,gZ (308+1) (.agg (stC q wv bs)) h κ=κ (.pto h.length 0) (h++[some (Blk.cells (stC q wv bs) (308+1))]):=fun κ=>by rw [dP];rfl
 have fz: ∀i,i<h.length→ae (h++[some (Blk.cells (stC q wv bs) (308+1))]) i=ae h i:=fun i hi=>aq hi _
 have hl0:(h++[some (Blk.cells (stC q wv bs) (308+1))]).length=h.length+1:=by simp
 have k0:cN kd h.length 0 h.length=0:=fP (Nat.le_refl _)
 have f0:h.length≤(h++[some (Blk.cells (stC q wv bs) (308+1))]).length∧ ∀i,i<h.length→kd i=0→ae (h++[some (Blk.cells (stC q wv bs) (308+1))]) i=ae h i∧cN kd h.length 0 i=0:=⟨by omega,fun i hi h0=>⟨fz i hi,by rw [bR hi];exact h0⟩⟩
 refine wEq (afL ..) ?_
 refine wEq (bx _) ?_
 generalize h++[some (Blk.cells (stC q wv bs) (308+1))]=h0 at*
 refine wEq (eB (cs:=[.int 18446744073709551615 0,.bool false,.nils,.nils]) (by kernel_rfl)) ?_
 refine bE (kF R0 W (f+37)).call ?_
 rintro x h1 ⟨rfl,kd1,R1,l1,f1⟩
 have e1:=f1 h.length (by omega) k0
 have hz1:ae h1 h.length=some (.cells (stC q wv bs) (308+1)):=by rw [e1.1];exact hz
 have okc:=eC (mx:=mx) R1 (f+38)
 have fx1:h.length≤h1.length∧ ∀i,i<h.length→kd i=0→ae h1 i=ae h i∧kd1 i=0:=⟨by omega,fun i hi hi0=>by
  have a:=f0.2 i hi hi0
  have b:=f1 i (by omega) a.2
  exact ⟨b.1.trans a.1,b.2⟩⟩
 have hst1:=pc c s
 have hsl1:=oQ c s
 have hnum:s.number c q=if (s.open_ c).code≠0 then s.open_ c else (if q.kind=3 then (({s.open_ c with last:=(s.open_ c).at_}:PR).take c q.a.toNat (s.open_ c).at_).2.lD q (ny q.flag (({s.open_ c with last:=(s.open_ c).at_}:PR).take c q.a.toNat (s.open_ c).at_).1) else (({s.open_ c with last:=(s.open_ c).at_}:PR).cC c q.flag 12 0 0).2.lD q (({s.open_ c with last:=(s.open_ c).at_}:PR).cC c q.flag 12 0 0).1):=rfl
 rw [hnum]
 generalize s.open_ c=s1 at*
 by_cases hc:s1.code≠0
 ·rw [if_pos hc]
  simp only [sy,List.length_append,Nat.reduceAdd,Nat.reduceMul,Nat.reduceSub,Nat.reduceLeDiff,Nat.reduceEqDiff,Nat.reduceLT,reduceIte,okc,decide_eq_false hc,zw]
  exact Ends.mk ⟨rfl,kd1,R1,fx1.1,fx1.2⟩
 ·rw [if_neg hc]
  have hc':s1.code=0:=by omega
  obtain ⟨stp,y,sl,st,ct,cl,QQ,hp,o2,o3,ok,o4,o5⟩:=R1.ex
  have hp':=hp
  unfold rdL at hp'
  simp only [sy,List.length_append,Nat.reduceAdd,Nat.reduceMul,Nat.reduceSub,Nat.reduceLeDiff,Nat.reduceEqDiff,Nat.reduceLT,reduceIte,okc,decide_eq_true hc',hp',n64]
  obtain ⟨s2,hs2⟩: ∃s2,s2=({s1 with last:=s1.at_}:PR):=⟨_,rfl⟩
  obtain ⟨h2,hh2⟩: ∃h2,h2=h1.set p (some (.cells (rdL K c s2 stp sl st ct cl) y)):=⟨_,rfl⟩
  have R2:RS m K kd1 h2 p c s2:=by subst hh2;subst hs2;exact R1.upd (s':={s1 with last:=s1.at_}) (stp':=stp) (y':=y) o2 o3 ok o4 o5
  have W2:Wf c s2:=by subst hs2;exact ⟨W1.at_,W1.at_,W1.parts,W1.dep,W1.stk⟩
  have hz2:ae h2 h.length=some (.cells (stC q wv bs) (308+1)):=by rw [hh2,ai (R1.iI e1.2)];exact hz1
  have fx2:h.length≤h2.length∧ ∀i,i<h.length→kd i=0→ae h2 i=ae h i∧kd1 i=0:=⟨by rw [hh2,List.length_set];exact fx1.1,fun i hi hi0=>⟨by rw [hh2,ai (R1.iI (fx1.2 i hi hi0).2)];exact (fx1.2 i hi hi0).1,(fx1.2 i hi hi0).2⟩⟩
  have hl2:h.length<h2.length:=by rw [hh2,List.length_set];omega
  have a2:s2.at_=s1.at_:=by rw [hs2]
  have sst:s2.stack= .nd 0 false [] []::u::r:=by rw [hs2];exact hst1.trans (by rw [hs])
  have ssl:s2.slots=s.slots:=by rw [hs2];exact hsl1
  rw [←hs2]
  have hh3:=hh2
  rw [hs2] at hh3
  unfold rdL at hh3
  simp only [n64] at hh3
  rw [←hh3]
  clear hh3
  rw [←a2]
  have hk1:=e1.2
  have ml:=R.ml
  have fin: ∀{s':PR} {kd3:Nat→Nat} {h3 h':AH},h2.length≤h3.length→(∀i,i<h2.length→kd1 i=0→ae h3 i=ae h2 i∧kd3 i=0)→Nx h.length m K kd3 h3 p c s' h'→Nx h.length m K kd h p c s' h':=fun l3 f3 nx=>by
   refine Nx.pre ⟨by omega,fun i hi h0=>?_⟩ nx
   have x1:=fx2.2 i hi h0
   have x2:=f3 i (by omega) x1.2
   exact ⟨x2.1.trans x1.1,x2.2⟩
  rcases hk with ⟨k3,ka,kb⟩|⟨k4,kf⟩
  ·rw [if_pos k3]
   have g3:decide ((q.kind:Int)=3)=true:=by rw [decide_eq_true_iff];omega
   obtain ⟨j,hj⟩:=Int.eq_ofNat_of_zero_le (show 0≤q.a by omega)
   have w1:aZ 18446744073709551615 (j:Int)=(j:Int):=gz (by omega) (by omega)
   rw [show q.a.toNat=j by omega]
   obtain ⟨x,h3,el,T⟩:=aG.call (C:=CL mx) (rR (mx:=mx) R2 W2 (n:=j) (a:=s2.at_) (by omega) W2.at_ (f+37))
   have tk:=uL c s2 j s2.at_
   have tb:=adr c s2 j s2.at_ R.byt
   obtain ⟨kd3,b0,hd,R3,l3,f3,_⟩:=T
   have e3:=f3 h.length hl2 hk1
   have hz3:ae h3 h.length=some (.cells (stC q wv bs) (308+1)):=e3.1.trans hz2
   obtain ⟨z,h4,el2,ez,e4⟩:=aG.call (C:=CL mx) (aid (mx:=mx) (flag:=q.flag) hd (by omega) tb (f+28))
   rw [ez,e4] at el2
   have lth:AV.lt (aj h3) (.pto h.length 3)=true:=by rw [gH,ah,decide_eq_true_iff];omega
   have gf:ae (cF (aj h3) h2) h.length=some (.cells (stC q wv bs) (308+1)):=by rw [rU (by omega) (by rw [ah];omega)];exact hz2
   have gl:decide (h2.length≤h3.length)=true:=decide_eq_true l3
   obtain ⟨stp2,y2,sl2,st2,ct2,cl2,QQ2,hp2,_⟩:=R2.ex
   unfold rdL at hp2
   simp only [sy,List.length_append,Nat.reduceAdd,Nat.reduceMul,Nat.reduceSub,Nat.reduceLeDiff,Nat.reduceEqDiff,Nat.reduceLT,reduceIte,wg,ahv,fN,ij,fV,hz2,eK,g3,hj,w1,hp2,n64,el,hz3,el2,ji,o1,nq,mz,j2,jU,abo,ade,cV,gf,cT,lth,Bool.true_and,fB,gl]
   obtain ⟨x,h',E,ex,nx⟩:=aej (mx:=mx) (lp:=(rl (CL mx) (f+39)).lp) (v1:=.agg (stC q wv bs)) (v10:=.bool false) (v20:=.bool true) (v47:=.bot) (v56:=.bot) (v66:=.bot) (n:=ny q.flag (s2.take c j s2.at_).1) R3 hz3 e3.2 (by rw [tk.1,ssl];exact hb) (tk.2.1.trans sst) hlen hkids ml (by omega) (f+37)
   exact ⟨x,h',E,ex,fin l3 f3 nx⟩
  ·rw [if_neg (by omega)]
   have g3:decide ((q.kind:Int)=3)=false:=by rw [decide_eq_false_iff_not];omega
   simp only [sy,List.length_append,Nat.reduceAdd,Nat.reduceMul,Nat.reduceSub,Nat.reduceLeDiff,Nat.reduceEqDiff,Nat.reduceLT,reduceIte,wg,hz2,eK,g3,kf]
   refine bE (af0 R2 W2 (f+8)).call ?_
   rintro x h3 ⟨rfl,kd3,R3,l3,f3⟩
   have vk:=qq c true 12 0 0 s2
   have e3:=f3 h.length hl2 hk1
   have hz3:ae h3 h.length=some (.cells (stC q wv bs) (308+1)):=e3.1.trans hz2
   obtain ⟨x,h',E,ex,nx⟩:=aej (mx:=mx) (lp:=(rl (CL mx) (f+39)).lp) (v1:=.agg (stC q wv bs)) (v10:=.bool false) (v20:=.bool false) (v47:=.bot) (v56:=.bot) (v66:=.bot) (n:=(s2.cC c true 12 0 0).1) R3 hz3 e3.2 (by rw [vk.1,ssl];exact hb) (vk.2.trans sst) hlen hkids ml (by omega) (f+37)
   exact ⟨x,h',E,ex,fin l3 f3 nx⟩
end
end Go.Proofs.YteapfopaiocpeaaGreatDoor
