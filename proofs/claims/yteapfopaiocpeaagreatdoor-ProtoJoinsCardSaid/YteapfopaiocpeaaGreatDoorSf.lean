/- A reader of package scan: a choice. The function's code is printed by a program. -/
import Derived.Test.YteapfopaiocpeaaGreatDoorSi
namespace Go.Proofs.YteapfopaiocpeaaGreatDoor
set_option linter.unusedSimpArgs false
set_option linter.unusedVariables false
set_option linter.unnecessarySimpa false
set_option linter.defProp false
noncomputable section
def jh (v0 v1 v3 v4 v5 v6 v12 v21 v35:AV):Tm:=(.nd 5 (.nd 3 (.nd 1 (.lf 0 v0) (.lf 1 v1)) (.nd 4 (.lf 3 v3) (.lf 4 v4))) (.nd 12 (.nd 6 (.lf 5 v5) (.lf 6 v6)) (.nd 21 (.lf 12 v12) (.nd 35 (.lf 21 v21) (.lf 35 v35)))))
def acB (mx:Int):K:=kAt [] (kOf (CL mx) 231)
def aiI (mx:Int):K:=kAt [1,1,1,1,1,1,1,1,0] (kOf (CL mx) 231)
def ak8 (mx:Int):K:=kAt [1,1,1,1,1,1,1,1,1] (kOf (CL mx) 231)
section
set_option maxRecDepth 100000
variable (mx:Int) (run:Run) (lp:Lp) (κn:Kt) (κx:Ex→Kt) (h:AH) (v0 v1 v3 v4 v5 v6 v12 v21 v35:AV)
theorem afl:kc (CL mx) run lp (acB mx) ⟨jh v0 v1 v3 v4 v5 v6 v12 v21 v35,h⟩ κn κx=gZ 309 v1 h (fun a0 h=>gU (placeOf (CL mx) [(0,40),(1,4),(2,22),(3,67)]) [.int 18446744073709551615 0,.bool false,.nils,.nils] [] h (fun a1 h=>aL (fun a2 h=>aL (fun a3 h=>ot a3 h (fun a4 h=>bG a4 (κx .ret ⟨jh v0 v1 a0 (.int 9223372036854775807 0) v5 v6 a4 v21 v35,h⟩) (aC v0 h (fun a5 h=>ao 10 a5 h (fun a6 h=>ar a6 h (fun a7 h=>aL (fun a8 h=>aL (fun a9 h=>ot a9 h (fun a10 h=>bG a10 (κx .ret ⟨jh v0 v1 a0 (.int 9223372036854775807 0) a8 v6 a4 a10 v35,h⟩) (aC v0 h (fun a11 h=>ao 10 a11 h (fun a12 h=>ar a12 h (fun a13 h=>arith iT a13 (.int 9223372036854775807 1) h (fun a14 h=>aC v0 h (fun a15 h=>ao 10 a15 h (fun a16 h=>cB a16 a14 h (fun a17 h=>ao 9 a0 h (fun a18 h=>akE 256 1 a18 a8 h (fun a19 h=>ar a19 h (fun a20 h=>cvI 9223372036854775807 a20 h (fun a21 h=>cmp cj a21 (.int 9223372036854775807 0) h (fun a22 h=>bG a22 (aC v0 h (fun a23 h=>ao 10 a23 h (fun a24 h=>ar a24 h (fun a25 h=>aL (fun a26 h=>κx .ret ⟨jh v0 v1 a0 (.int 9223372036854775807 0) a8 a21 a4 a10 a22,h⟩) (aD (CL mx) run 114 [v0,(.int 9223372036854775807 212),a25] h))))) (kc (CL mx) run lp (aiI mx) ⟨jh v0 v1 a0 (.int 9223372036854775807 0) a8 a21 a4 a10 a22,h⟩ (fun s=>kc (CL mx) run lp (ak8 mx) s κn κx) κx)))))))))))))))) (aD (CL mx) run 112 [v0] h)) (aD (CL mx) run 224 [v0,a7] h))))))) (aD (CL mx) run 112 [v0] h)) (aD (CL mx) run 170 [v0,a1] h))):=by kernel_rfl
theorem afC:kc (CL mx) run lp (aiI mx) ⟨jh v0 v1 v3 v4 v5 v6 v12 v21 v35,h⟩ κn κx=aC v0 h (fun a0 h=>ao 16 a0 h (fun a1 h=>ar a1 h (fun a2 h=>aC v0 h (fun a3 h=>ao 16 a3 h (fun a4 h=>ar a4 h (fun a5 h=>bH a5 h (fun a6 h=>arith iT a6 (.int 9223372036854775807 1) h (fun a7 h=>arith iT v6 (.int 9223372036854775807 1) h (fun a8 h=>cvI 18446744073709551615 a8 h (fun a9 h=>bT 4 a2 a7 h (fun a10 h=>ao 0 a10 h (fun a11 h=>cB a11 a9 h (fun a12 h1=>bq (Nat.ble (aj h) (aj h1)) ((fun h=>κn ⟨jh v0 v1 v3 v4 v5 v6 v12 v21 v35,h⟩) h1) none))))))))))))):=(cE (C:=CL mx) (ops:=opsOf (cAt [1,1,1,1,1,1,1,1,0] (aH (CL mx) 231))) (ps:=[0,1,3,4,5,6,12,21,35]) (by kernel_rfl) (by kernel_rfl) _ _ _).trans (by kernel_rfl)
theorem ag2:kc (CL mx) run lp (ak8 mx) ⟨jh v0 v1 v3 v4 v5 v6 v12 v21 v35,h⟩ κn κx=ao 8 v3 h (fun a0 h=>ar a0 h (fun a1 h=>arith iT v6 (.int 9223372036854775807 1) h (fun a2 h=>bT 2 a1 a2 h (fun a3 h=>ao 1 a3 h (fun a4 h=>ar a4 h (fun a5 h=>κx .ret ⟨jh v0 v1 v3 a5 v5 v6 v12 v21 v35,h⟩)))))):=by kernel_rfl
theorem pJ:kcE (CL mx) [.tmp 4] ⟨jh v0 v1 v3 v4 v5 v6 v12 v21 v35,h⟩=some (.vh v4 h):=(bJ _ _ _).trans (by kernel_rfl)
theorem an1:dp (CL mx) 231=some ⟨acB mx,[0,1,3,4,5,6,12,21,35],64,[.tmp 4]⟩:=by kernel_rfl
end
theorem akZ (mx:Int) (run:Run) (lp:Lp) (x0 x1:AV) (h:AH):cW (CL mx) run lp 231 [x0,x1] h=vhO (kc (CL mx) run lp (acB mx) ⟨jh x0 x1 .bot .bot .bot .bot .bot .bot .bot,h⟩ (kcE (CL mx) [.tmp 4]) (kcQ (CL mx) [.tmp 4])):=(bK (by kernel_rfl) (an1 mx) (by kernel_rfl)).trans (by kernel_rfl)
end
section
variable {mx:Int} {m:Nat} {K:RC} {kd:Nat→Nat} {h:AH} {p:Nat} {c:PC} {s:PR}
theorem afk (R:RS m K kd h p c s) (W:Wf c s) (W1:Wf c (s.open_ c)) {q:PS} {wv:AV} {bs:List AV} (hbs:(stC q wv bs).length=265) (hpl:aR (stC q wv bs)=true) (hby:bs=aS q.bytes) (O:RdR h (fun b=>b<m) 2 wv (q.ways.map ie)) (hb8: ∀x∈q.bytes,x<256) (hk: ∀x∈q.bytes,x≤q.ways.length) (hl:q.ways.length≤1000) (f:Nat):
 aG (fun x h'=>x= .int 9223372036854775807 ((s.choose c q).1:Int)∧Nx h.length m K kd h p c (s.choose c q).2 h') ((rl (CL mx) (f+10)).run 231 [.pto p 0,.agg (stC q wv bs)] h):=by
 refine aG.runs (n:=f+9) (akZ mx _ _ _ _ _) ?_
 have hz:=aI h (some (Blk.cells (stC q wv bs) (308+1)))
 have R0:=R.grow (h':=h++[some (Blk.cells (stC q wv bs) (308+1))]) (by simp) (fun i hi=>aq hi _)
 have bx: ∀κ:Ka,gZ (308+1) (.agg (stC q wv bs)) h κ=κ (.pto h.length 0) (h++[some (Blk.cells (stC q wv bs) (308+1))]):=fun κ=>by rw [dP];rfl
 have fz: ∀i,i<h.length→ae (h++[some (Blk.cells (stC q wv bs) (308+1))]) i=ae h i:=fun i hi=>aq hi _
 have hl0:(h++[some (Blk.cells (stC q wv bs) (308+1))]).length=h.length+1:=by simp
 have k0:cN kd h.length 0 h.length=0:=fP (Nat.le_refl _)
 have O0:RdR (h++[some (Blk.cells (stC q wv bs) (308+1))]) (fun b=>b<m) 2 wv (q.ways.map ie):=O.mono fun b hb hs=>⟨hs,fz b hb⟩
 have f0: ∀i,i<h.length→kd i=0→ae (h++[some (Blk.cells (stC q wv bs) (308+1))]) i=ae h i∧cN kd h.length 0 i=0:=fun i hi h0=>⟨fz i hi,by rw [bR hi];exact h0⟩
 have qb:q.bytes.length=256:=by
  have:=hbs
  rw [hby] at this
  unfold stC at this
  rw [List.length_append,bW] at this
  simp at this
  omega
 refine wEq (afl ..) ?_
 refine wEq (bx _) ?_
 generalize h++[some (Blk.cells (stC q wv bs) (308+1))]=h0 at*
 refine wEq (eB (cs:=[.int 18446744073709551615 0,.bool false,.nils,.nils]) (by kernel_rfl)) ?_
 refine bE (kF R0 W (f+7)).call ?_
 rintro x h1 ⟨rfl,kd1,R1,l1,f1⟩
 have e1:=f1 h.length (by omega) k0
 have hz1:=e1.1.trans hz
 have fin1: ∀{s':PR} {h':AH},Nx h.length m K kd1 h1 p c s' h'→Nx h.length m K kd h p c s' h':=fun nx=>by
  obtain ⟨kd',R',l',f'⟩:=nx
  refine ⟨kd',R',by omega,fun i hi hi0=>?_⟩
  have a:=f1 i (by omega) (f0 i hi hi0).2
  exact ⟨(f' i hi a.2).1.trans (a.1.trans (fz i hi)),(f' i hi a.2).2⟩
 have hst1:=pc c s
 have ch:s.choose c q=if (s.open_ c).code≠0 then (0,s.open_ c) else if ((s.open_ c).byte c).2.code≠0 then (0,((s.open_ c).byte c).2) else
  (fun k:Nat=>if k=0 then (0,(s.open_ c).bh 212 (s.open_ c).at_) else ((q.ways.getD (k-1) (0,0)).2,{s.open_ c with stack:=match (s.open_ c).stack with|t::r=>t.num (k-1)::r|[]=>[]})) (q.bytes.getD ((s.open_ c).byte c).1 0):=rfl
 rw [ch]
 clear ch
 generalize s.open_ c=s1 at*
 have okc:=eC (mx:=mx) R1 (f+8)
 by_cases hc:s1.code≠0
 ·rw [if_pos hc]
  simp only [sy,List.length_append,Nat.reduceAdd,Nat.reduceMul,Nat.reduceSub,Nat.reduceLeDiff,Nat.reduceEqDiff,Nat.reduceLT,reduceIte,okc,decide_eq_false hc,pJ]
  exact Ends.mk ⟨rfl,fin1 ⟨kd1,R1,Nat.le_refl _,fun i hi h0=>⟨rfl,h0⟩⟩⟩
 ·rw [if_neg hc]
  have hc':s1.code=0:=by omega
  obtain ⟨stp,y,sl,st,ct,cl,QQ,hp,o2,o3,ok,o4,o5⟩:=R1.ex
  have hp':=hp
  unfold rdL at hp'
  simp only [sy,List.length_append,Nat.reduceAdd,Nat.reduceMul,Nat.reduceSub,Nat.reduceLeDiff,Nat.reduceEqDiff,Nat.reduceLT,reduceIte,okc,decide_eq_true hc',hp',n64]
  refine bE (wX R1 W1 (a:=s1.at_) (f+6)).call ?_
  rintro x h2 ⟨rfl,kd2,R2,l2,f2⟩
  have okc2:=eC (mx:=mx) R2 (f+8)
  have e2:=f2 h.length (by omega) e1.2
  have hz2:=e2.1.trans hz1
  have fin2: ∀{s':PR} {h':AH},Nx h.length m K kd2 h2 p c s' h'→Nx h.length m K kd h p c s' h':=fun nx=>fin1 (by
   obtain ⟨kd',R',l',f'⟩:=nx
   refine ⟨kd',R',by omega,fun i hi hi0=>?_⟩
   have a:=f2 i (by omega) hi0
   exact ⟨(f' i hi a.2).1.trans a.1,(f' i hi a.2).2⟩)
  by_cases hd:(s1.byte c).2.code≠0
  ·rw [if_pos hd]
   simp only [sy,List.length_append,Nat.reduceAdd,Nat.reduceMul,Nat.reduceSub,Nat.reduceLeDiff,Nat.reduceEqDiff,Nat.reduceLT,reduceIte,okc2,decide_eq_false hd,pJ]
   exact Ends.mk ⟨rfl,fin2 ⟨kd2,R2,Nat.le_refl _,fun i hi h0=>⟨rfl,h0⟩⟩⟩
  ·rw [if_neg hd]
   have hd':(s1.byte c).2.code=0:=by omega
   obtain ⟨b,hb⟩: ∃b,c.data[s1.at_]? =some b:=by
    cases e:c.data[s1.at_]? with
    |some b=>exact ⟨b,rfl⟩
    |none=>
     exfalso
     unfold PR.byte PR.bh at hd'
     rw [e] at hd'
     simp [hc'] at hd'
   have eb:s1.byte c=(b,{s1 with at_:=s1.at_+1}):=by unfold PR.byte;rw [hb]
   rw [eb] at R2 okc2 hd' ⊢
   have hb256:b<256:=R.byt b (List.mem_of_getElem? hb)
   have hat:=W1.at_
   have hlen:=R.len
   obtain ⟨k,hkk⟩: ∃k,q.bytes[b]? =some k:=⟨_,List.getElem?_eq_getElem (by omega)⟩
   have hk256:=hb8 k (List.mem_of_getElem? hkk)
   have hkl:=hk k (List.mem_of_getElem? hkk)
   have gk:q.bytes.getD b 0=k:=by rw [List.getD_eq_getElem?_getD,hkk];rfl
   have gB:(stC q wv bs)[9+b*1]? =some (.int 255 (k:Int)):=by
    unfold stC
    rw [List.getElem?_append_right (by simp),hby]
    show (aS q.bytes)[9+b*1-9]? =_
    rw [show 9+b*1-9=b by omega]
    exact oV hkk
   obtain ⟨stp2,y2,sl2,st2,ct2,cl2,QQ2,hp2,p2,p3,pk,p4,p5⟩:=R2.ex
   have R3:=R2.upd (s':=s1) (stp':=stp2) (y':=y2) p2 p3 pk p4 p5
   have hp2':=hp2
   unfold rdL at hp2'
   have hpl2:=aO hp2
   have hz3: ∀Y,ae (h2.set p Y) h.length=some (.cells (stC q wv bs) (308+1)):=fun Y=>by rw [ai (R2.iI e2.2)];exact hz2
   have w1:aZ 9223372036854775807 (((s1.at_+1:Nat):Int)-1)=(s1.at_:Int):=by rw [bd (by omega) (by omega)];simp
   have w2:aZ 9223372036854775807 (k:Int)=(k:Int):=bd (by omega) (by omega)
   have gb:decide (b<256)=true:=decide_eq_true hb256
   have fin3: ∀{s':PR} {h':AH},Nx h.length m K kd2 (h2.set p (some (.cells (rdL K c s1 stp2 sl2 st2 ct2 cl2) y2))) p c s' h'→Nx h.length m K kd h p c s' h':=fun nx=>fin2 (by
    obtain ⟨kd',R',l',f'⟩:=nx
    rw [List.length_set] at l'
    exact ⟨kd',R',l',fun i hi hi0=>⟨(f' i hi hi0).1.trans (ai (R2.iI hi0) _),(f' i hi hi0).2⟩⟩)
   show Ends (fun x h'=>x= .int 9223372036854775807 ((if q.bytes.getD b 0=0 then ((0:Nat),s1.bh 212 s1.at_) else _:Nat×PR).1:Int)∧Nx h.length m K kd h p c (if q.bytes.getD b 0=0 then ((0:Nat),s1.bh 212 s1.at_) else _:Nat×PR).2 h') _
   rw [gk]
   by_cases hk0:k=0
   ·rw [if_pos hk0]
    have g:decide ((k:Int)=0)=true:=by rw [decide_eq_true_iff];omega
    simp only [sy,List.length_append,Nat.reduceAdd,Nat.reduceMul,Nat.reduceSub,Nat.reduceLeDiff,Nat.reduceEqDiff,Nat.reduceLT,reduceIte,okc2,decide_eq_true hd',hp2',n64,w1,hz3,gb,gB,w2,g,az hpl2]
    refine bE (eM R3 212 s1.at_ (f+8)).call ?_
    rintro x h3 ⟨rfl,R4,n4,f4⟩
    simp only [sy,List.length_append,Nat.reduceAdd,Nat.reduceMul,Nat.reduceSub,Nat.reduceLeDiff,Nat.reduceEqDiff,Nat.reduceLT,reduceIte,pJ]
    exact Ends.mk ⟨rfl,fin3 ⟨kd2,R4,by omega,fun i hi hi0=>⟨f4 i (by rw [hi0];decide),hi0⟩⟩⟩
   ·rw [if_neg hk0]
    have g:decide ((k:Int)=0)=false:=by rw [decide_eq_false_iff_not];omega
    obtain ⟨h3,hh3⟩: ∃h3,h3=h2.set p (some (.cells (rdL K c s1 stp2 sl2 st2 ct2 cl2) y2)):=⟨_,rfl⟩
    have hh4:=hh3
    unfold rdL at hh4
    simp only [n64] at hh4
    rw [←hh3] at R3
    have hz4:ae h3 h.length=some (.cells (stC q wv bs) (308+1)):=by rw [hh3];exact hz3 _
    have O3:RdR h3 (fun b=>b<m) 2 wv (q.ways.map ie):=O0.mono fun b hb hs=>⟨hs,by
     have:=R.ml
     rw [hh3,ai (R2.iI (R2.lo b hs)),(f2 b (by omega) (R1.lo b hs)).1,(f1 b (by omega) (by rw [bR (by omega)];exact R.lo b hs)).1]⟩
    simp only [sy,List.length_append,Nat.reduceAdd,Nat.reduceMul,Nat.reduceSub,Nat.reduceLeDiff,Nat.reduceEqDiff,Nat.reduceLT,reduceIte,okc2,decide_eq_true hd',hp2',n64,w1,hz3,gb,gB,w2,g,az hpl2]
    rw [←hh4]
    rw [←hh3] at fin3
    clear hh4
    obtain ⟨stp3,y3,sl3,st3,ct3,cl3,QQ3,hp3,r2,r3,rk,r4,r5⟩:=R3.ex
    have hp3':=hp3
    unfold rdL at hp3'
    have hpl3:=aO hp3
    rw [hst1] at rk
    obtain ⟨qt,Q1,rfl⟩: ∃q Q,QQ3=q::Q:=by
     cases QQ3 with
     |nil=>exact rk.elim
     |cons q Q=>exact ⟨q,Q,rfl⟩
    obtain ⟨rk1,rk2⟩:=rk
    have hQ1:=rk2.len
    have T:=rk1
    unfold fK at T
    obtain ⟨dv,kv,rfl,td,tks⟩:=T
    have hstk:=W.stk
    rw [List.reverse_cons] at r3
    obtain ⟨hr,⟨cc,_⟩|⟨bb,cap,ee,junk,yb,hbb,ob⟩⟩:=r3
    ·simp at cc
    have hbb:kd2 bb=3:=hbb
    have hgt:(Q1.reverse++[[AV.int 18446744073709551615 ((0:Nat):Int),.bool false,dv,kv]])[s.stack.length]? =some [AV.int 18446744073709551615 ((0:Nat):Int),.bool false,dv,kv]:=by
     have:s.stack.length=Q1.reverse.length:=by rw [List.length_reverse,hQ1]
     rw [this];simp
    have el:=ob.el hr hgt
    obtain ⟨st1,ob2⟩:=ob.st1 hr hgt (j:=0) (c:=.int 18446744073709551615 ((k-1:Nat):Int)) (by decide) rfl
    have hset:(Q1.reverse++[[AV.int 18446744073709551615 ((0:Nat):Int),.bool false,dv,kv]]).set s.stack.length (List.set [AV.int 18446744073709551615 ((0:Nat):Int),.bool false,dv,kv] 0 (.int 18446744073709551615 ((k-1:Nat):Int)))=Q1.reverse++[[AV.int 18446744073709551615 ((k-1:Nat):Int),.bool false,dv,kv]]:=by
     have:s.stack.length=Q1.reverse.length:=by rw [List.length_reverse,hQ1]
     rw [this,mA];rfl
    rw [hset] at st1 ob2
    have lens: ∀(h':AH) (κ:Ka),bH st3 h' κ=κ (.int 9223372036854775807 ((s.stack.length+1:Nat):Int)) h':=fun h' κ=>by
     rw [ob.val]
     have:(Q1.reverse++[[AV.int 18446744073709551615 ((0:Nat):Int),.bool false,dv,kv]]).length=s.stack.length+1:=by simp [hQ1]
     rw [this];rfl
    obtain ⟨P0,hP0⟩: ∃P,P=AV.pto bb (s.stack.length*4):=⟨_,rfl⟩
    obtain ⟨M0,hM0⟩: ∃P,P=AV.pto bb (s.stack.length*4+0):=⟨_,rfl⟩
    have ix: ∀(n:Nat) (h':AH) (κ:Ka),bT 4 st3 (.int n (s.stack.length:Int)) h' κ=κ P0 h':=fun n h' κ=>by rw [hP0];exact el.idx n h' κ
    have mv: ∀(h':AH) (κ:Ka),ao 0 P0 h' κ=κ M0 h':=fun h' κ=>by rw [hP0,hM0];rfl
    rw [←hM0] at st1
    obtain ⟨X,hX⟩: ∃X,X=some (Blk.cells ((Q1.reverse++[[AV.int 18446744073709551615 ((k-1:Nat):Int),.bool false,dv,kv]]).flatten++junk) yb):=⟨_,rfl⟩
    rw [←hX] at st1 ob2
    have w3:aZ 9223372036854775807 (((s.stack.length+1:Nat):Int)-1)=(s.stack.length:Int):=by rw [bd (by omega) (by omega)];simp
    have w4:aZ 9223372036854775807 ((k:Int)-1)=((k-1:Nat):Int):=by rw [bd (by omega) (by omega)];omega
    have w5:aZ 18446744073709551615 ((k-1:Nat):Int)=((k-1:Nat):Int):=gz (by omega) (by omega)
    have ble:Nat.ble (aj h3) (aj (h3.set bb X))=true:=by rw [bL,ah,ah];simp
    have fr: ∀i,kd2 i≠3→ae (h3.set bb X) i=ae h3 i:=fun i hi=>ai (fun cc=>hi (by rw [←cc];exact hbb)) _
    have hz5:ae (h3.set bb X) h.length=some (.cells (stC q wv bs) (308+1)):=by rw [fr _ (by rw [e2.2];decide)];exact hz4
    have O4:RdR (h3.set bb X) (fun b=>b<m) 2 wv (q.ways.map ie):=O3.mono fun b _ hs=>⟨hs,fr b (by rw [R3.lo b hs];decide)⟩
    obtain ⟨w,hw⟩: ∃w,q.ways[k-1]? =some w:=⟨_,List.getElem?_eq_getElem (by omega)⟩
    have gw:q.ways.getD (k-1) (0,0)=w:=by rw [List.getD_eq_getElem?_getD,hw];rfl
    obtain ⟨Pw,iw,_,elw⟩:=O4.el (i:=k-1) (q:=ie w) (by rw [List.getElem?_map,hw];rfl)
    obtain ⟨Mw,mw,lw⟩:=elw 1 (.int 9223372036854775807 (w.2:Int)) rfl
    rw [gw,hst1]
    simp only [sy,List.length_append,Nat.reduceAdd,Nat.reduceMul,Nat.reduceSub,Nat.reduceLeDiff,Nat.reduceEqDiff,Nat.reduceLT,reduceIte,afC,hp3',lens,w3,w4,w5,ix,mv,st1,ble,ag2,hz5,eK,iw,mw,lw,pJ]
    have mm: ∀{j:Nat},j≠3→ ∀b',b'<h3.length→kd2 b'=j→kd2 b'=j∧ae (h3.set bb X) b'=ae h3 b':=fun hj b' hb' e=>⟨e,fr b' (by rw [e];exact hj)⟩
    refine Ends.mk ⟨rfl,fin3 ⟨kd2,R3.make (stp':=stp3) (y':=y3) (sl:=sl3) (st:=st3) (ct:=ct3) (cl:=cl3) (Q:=[AV.int 18446744073709551615 ((k-1:Nat):Int),.bool false,dv,kv]::Q1) R3.kp (fun i hi=>⟨R3.lo i hi,fr i (by rw [R3.lo i hi];decide)⟩) (by rw [List.length_set];exact Nat.le_refl _) (by rw [fr p (by rw [R3.kp];decide)];exact hp3) (r2.mono (mm (by decide))) ?_ ?_ (r4.mono (mm (by decide))) (r5.mono (mm (by decide))),by rw [List.length_set];exact Nat.le_refl _,fun i hi hi0=>⟨fr i (by rw [hi0];decide),hi0⟩⟩⟩
    ·rw [List.reverse_cons]
     refine ⟨fun x hx=>?_,.inr ⟨bb,cap,ee,junk,yb,hbb,ob2⟩⟩
     rcases List.mem_append.1 hx with hx|hx
     ·exact hr x (List.mem_append_left _ hx)
     ·obtain rfl:x=_:=by simpa using hx
      rfl
    ·refine ⟨?_,rk2.mono fun b' hb' g1 g2=>⟨rfl,fr b' (by omega)⟩⟩
     have t2:fK h3 (fun b=>kd2 b=6+s.stack.length) [AV.int 18446744073709551615 ((k-1:Nat):Int),.bool false,dv,kv] (.nd (k-1) false [] []):=by
      unfold fK
      exact ⟨dv,kv,rfl,td,tks⟩
     exact t2.mono _ fun b' hb' hs'=>⟨hs',fr b' (by rw [hs'];omega)⟩
end
end Go.Proofs.YteapfopaiocpeaaGreatDoor
