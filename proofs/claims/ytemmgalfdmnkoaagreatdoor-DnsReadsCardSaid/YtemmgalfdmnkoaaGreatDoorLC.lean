/- Contracts of this program, and what they tell in plain Lean. -/
import Derived.Test.YtemmgalfdmnkoaaGreatDoorLB
namespace Go.Proofs.YtemmgalfdmnkoaaGreatDoor
set_option linter.unusedSimpArgs false
set_option linter.unusedVariables false
set_option linter.unnecessarySimpa false
set_option linter.defProp false
noncomputable section
def jA (v0 v1 v z v5 u o l d:AV):Tm:=(.nd 5 (.nd 3 (.nd 1 (.lf 0 v0) (.lf 1 v1)) (.nd 4 (.lf 3 v) (.lf 4 z))) (.nd 12 (.nd 6 (.lf 5 v5) (.lf 6 u)) (.nd 21 (.lf 12 o) (.nd 35 (.lf 21 l) (.lf 35 d)))))
def aci (mx:Int):K:=kAt [] (kOf (CL mx) 241)
def akK (mx:Int):K:=kAt [1,1,1,1,1,1,1,1,0] (kOf (CL mx) 241)
def aot (mx:Int):K:=kAt [1,1,1,1,1,1,1,1,1] (kOf (CL mx) 241)
section
set_option maxRecDepth 100000
variable (mx:Int) (run:Run) (lp:Lp) (κn:Kt) (κx:Ex→Kt) (h:AH) (v0 v1 v z v5 u o l d:AV)
theorem ajD:kc (CL mx) run lp (aci mx) ⟨jA v0 v1 v z v5 u o l d,h⟩ κn κx=fQ 350 v1 h (fun a0 h=>dX (placeOf (CL mx) [(0,64),(1,4),(2,22),(3,65)]) [.int 18446744073709551615 0,.bool false,.aa,.aa] [] h (fun a1 h=>aP (fun a2 h=>aP (fun a3 h=>oE a3 h (fun a4 h=>bJ a4 (κx .ret ⟨jA v0 v1 a0 (.int 9223372036854775807 0) v5 u a4 l d,h⟩) (aM v0 h (fun a5 h=>aj 10 a5 h (fun a6 h=>ao a6 h (fun a7 h=>aP (fun a8 h=>aP (fun a9 h=>oE a9 h (fun a10 h=>bJ a10 (κx .ret ⟨jA v0 v1 a0 (.int 9223372036854775807 0) a8 u a4 a10 d,h⟩) (aM v0 h (fun a11 h=>aj 10 a11 h (fun a12 h=>ao a12 h (fun a13 h=>arith jC a13 (.int 9223372036854775807 1) h (fun a14 h=>aM v0 h (fun a15 h=>aj 10 a15 h (fun a16 h=>bQ a16 a14 h (fun a17 h=>aj 9 a0 h (fun a18 h=>kn 256 1 a18 a8 h (fun a19 h=>ao a19 h (fun a20 h=>cvI 9223372036854775807 a20 h (fun a21 h=>cmp cD a21 (.int 9223372036854775807 0) h (fun a22 h=>bJ a22 (aM v0 h (fun a23 h=>aj 10 a23 h (fun a24 h=>ao a24 h (fun a25 h=>aP (fun a26 h=>κx .ret ⟨jA v0 v1 a0 (.int 9223372036854775807 0) a8 a21 a4 a10 a22,h⟩) (aH (CL mx) run 138 [v0,(.int 9223372036854775807 212),a25] h))))) (kc (CL mx) run lp (akK mx) ⟨jA v0 v1 a0 (.int 9223372036854775807 0) a8 a21 a4 a10 a22,h⟩ (fun s=>kc (CL mx) run lp (aot mx) s κn κx) κx)))))))))))))))) (aH (CL mx) run 136 [v0] h)) (aH (CL mx) run 239 [v0,a7] h))))))) (aH (CL mx) run 136 [v0] h)) (aH (CL mx) run 194 [v0,a1] h))):=by kernel_rfl
theorem ajs:kc (CL mx) run lp (akK mx) ⟨jA v0 v1 v z v5 u o l d,h⟩ κn κx=aM v0 h (fun a0 h=>aj 16 a0 h (fun a1 h=>ao a1 h (fun a2 h=>aM v0 h (fun a3 h=>aj 16 a3 h (fun a4 h=>ao a4 h (fun a5 h=>bG a5 h (fun a6 h=>arith jC a6 (.int 9223372036854775807 1) h (fun a7 h=>arith jC u (.int 9223372036854775807 1) h (fun a8 h=>cvI 18446744073709551615 a8 h (fun a9 h=>bM 4 a2 a7 h (fun a10 h=>aj 0 a10 h (fun a11 h=>bQ a11 a9 h (fun a12 h1=>bq (Nat.ble (ag h) (ag h1)) ((fun h=>κn ⟨jA v0 v1 v z v5 u o l d,h⟩) h1) none))))))))))))):=(cA (C:=CL mx) (ops:=opsOf (cAt [1,1,1,1,1,1,1,1,0] (bS (CL mx) 241))) (ps:=[0,1,3,4,5,6,12,21,35]) (by kernel_rfl) (by kernel_rfl) _ _ _).trans (by kernel_rfl)
theorem aiG:kc (CL mx) run lp (aot mx) ⟨jA v0 v1 v z v5 u o l d,h⟩ κn κx=aj 8 v h (fun a0 h=>ao a0 h (fun a1 h=>arith jC u (.int 9223372036854775807 1) h (fun a2 h=>bM 2 a1 a2 h (fun a3 h=>aj 1 a3 h (fun a4 h=>ao a4 h (fun a5 h=>κx .ret ⟨jA v0 v1 v a5 v5 u o l d,h⟩)))))):=by kernel_rfl
theorem qi:kcE (CL mx) [.tmp 4] ⟨jA v0 v1 v z v5 u o l d,h⟩=some (.vh z h):=(bW _ _ _).trans (by kernel_rfl)
theorem aqm:dz (CL mx) 241=some ⟨aci mx,[0,1,3,4,5,6,12,21,35],64,[.tmp 4]⟩:=by kernel_rfl
end
theorem ak3 (mx:Int) (run:Run) (lp:Lp) (x0 x1:AV) (h:AH):dk (CL mx) run lp 241 [x0,x1] h=vhO (kc (CL mx) run lp (aci mx) ⟨jA x0 x1 .bot .bot .bot .bot .bot .bot .bot,h⟩ (kcE (CL mx) [.tmp 4]) (kcQ (CL mx) [.tmp 4])):=(bV (by kernel_rfl) (aqm mx) (by kernel_rfl)).trans (by kernel_rfl)
end
section
variable {mx:Int} {m:Nat} {K:RC} {kd:Nat→Nat} {h:AH} {p:Nat} {c:PC} {s:PR}
theorem aiy (R:RS m K kd h p c s) (W:Wf c s) (W1:Wf c (s.open_ c)) {q:PS} {wv:AV} {bs:List AV} (hbs:(stC q wv bs).length=265) (hpl:aO (stC q wv bs)=true) (hby:bs=aI q.bytes) (O:RdR h (fun b=>b<m) 2 wv (q.ways.map wL)) (hb8: ∀x∈q.bytes,x<256) (hk: ∀x∈q.bytes,x≤q.ways.length) (hl:q.ways.length≤1000) (f:Nat):
 aL (fun x h'=>x= .int 9223372036854775807 ((s.choose c q).1:Int)∧Nx h.length m K kd h p c (s.choose c q).2 h') ((rl (CL mx) (f+10)).run 241 [.pto p 0,.agg (stC q wv bs)] h):=by
 refine aL.runs (n:=f+9) (ak3 mx _ _ _ _ _) ?_;have hz:=aD h (some (Blk.cells (stC q wv bs) (349+1)));have R0:=R.grow (h':=h++[some (Blk.cells (stC q wv bs) (349+1))]) (by simp) (fun i hi=>ak hi _);have bx: ∀κ:Ka,fQ (349+1) (.agg (stC q wv bs)) h κ=κ (.pto h.length 0) (h++[some (Blk.cells (stC q wv bs) (349+1))]):=fun κ=>by rw [dK];rfl
 have fz: ∀i,i<h.length→ab (h++[some (Blk.cells (stC q wv bs) (349+1))]) i=ab h i:=fun i hi=>ak hi _
 have hl0:(h++[some (Blk.cells (stC q wv bs) (349+1))]).length=h.length+1:=by simp
 have k0:dF kd h.length 0 h.length=0:=iY (A9 _);have O0:RdR (h++[some (Blk.cells (stC q wv bs) (349+1))]) (fun b=>b<m) 2 wv (q.ways.map wL):=O.mono fun b hb hs=>⟨hs,fz b hb⟩
 have f0: ∀i,i<h.length→kd i=0→ab (h++[some (Blk.cells (stC q wv bs) (349+1))]) i=ab h i∧dF kd h.length 0 i=0:=fun i hi h0=>⟨fz i hi,by rw [cF hi];exact h0⟩
 have qb:q.bytes.length=256:=by
  have:=hbs
  rw [hby] at this;unfold stC at this;rw [A7,ba] at this
  simp at this
  omega
 refine wEq (ajD ..) ?_;refine wEq (bx _) ?_
 generalize h++[some (Blk.cells (stC q wv bs) (349+1))]=h0 at*
 refine wEq (cZ (cs:=[.int 18446744073709551615 0,.bool false,.aa,.aa]) (by kernel_rfl)) ?_;refine cy (kF R0 W (f+7)).call ?_;rintro x h1 ⟨rfl,kd1,R1,l1,f1⟩;have e1:=f1 h.length (by omega) k0;have hz1:=e1.1.trans hz;have fin1: ∀{s':PR} {h':AH},Nx h.length m K kd1 h1 p c s' h'→Nx h.length m K kd h p c s' h':=fun nx=>by
  obtain ⟨kd',R',l',f'⟩:=nx;refine ⟨kd',R',by omega,fun i hi hi0=>?_⟩;have a:=f1 i (by omega) (f0 i hi hi0).2;exact ⟨(f' i hi a.2).1.trans (a.1.trans (fz i hi)),(f' i hi a.2).2⟩
 have hst1:=oW c s;have ch:s.choose c q=if (s.open_ c).code≠0 then (0,s.open_ c) else if ((s.open_ c).byte c).2.code≠0 then (0,((s.open_ c).byte c).2) else
  (fun k:Nat=>if k=0 then (0,(s.open_ c).cd 212 (s.open_ c).at_) else ((q.ways.getD (k-1) (0,0)).2,{s.open_ c with stack:=match (s.open_ c).stack with|t::r=>t.num (k-1)::r|[]=>[]})) (q.bytes.getD ((s.open_ c).byte c).1 0):=rfl
 rw [ch];clear ch
 generalize s.open_ c=s1 at*
 have okc:=gd (mx:=mx) R1 (f+8)
 by_cases hc:s1.code≠0
 ·rw [if_pos hc]
  simp only [sy,A7,seval,okc,decide_eq_false hc,qi];exact Ends.mk ⟨rfl,fin1 ⟨kd1,R1,A9 _,fun i hi h0=>⟨rfl,h0⟩⟩⟩
 ·rw [if_neg hc]
  have hc':s1.code=0:=by omega
  obtain ⟨stp,y,sl,st,ct,cl,QQ,hp,o2,o3,ok,o4,o5⟩:=R1.ex;have hp':=hp;unfold rdL at hp';simp only [sy,A7,seval,okc,decide_eq_true hc',hp',n64];refine cy (aiY R1 W1 (a:=s1.at_) (f+6)).call ?_;rintro x h2 ⟨rfl,kd2,R2,l2,f2⟩;have okc2:=gd (mx:=mx) R2 (f+8);have e2:=f2 h.length (by omega) e1.2;have hz2:=e2.1.trans hz1;have fin2: ∀{s':PR} {h':AH},Nx h.length m K kd2 h2 p c s' h'→Nx h.length m K kd h p c s' h':=fun nx=>fin1 (by
   obtain ⟨kd',R',l',f'⟩:=nx;refine ⟨kd',R',by omega,fun i hi hi0=>?_⟩;have a:=f2 i (by omega) hi0;exact ⟨(f' i hi a.2).1.trans a.1,(f' i hi a.2).2⟩)
  by_cases hd:(s1.byte c).2.code≠0
  ·rw [if_pos hd]
   simp only [sy,A7,seval,okc2,decide_eq_false hd,qi];exact Ends.mk ⟨rfl,fin2 ⟨kd2,R2,A9 _,fun i hi h0=>⟨rfl,h0⟩⟩⟩
  ·rw [if_neg hd]
   have hd':(s1.byte c).2.code=0:=by omega
   obtain ⟨b,hb⟩: ∃b,c.data[s1.at_]? =some b:=by
    cases e:c.data[s1.at_]? with
    |some b=>exact ⟨b,rfl⟩
    |none=>
     exfalso
     unfold PR.byte PR.cd at hd';rw [e] at hd'
     simp [hc'] at hd'
   have eb:s1.byte c=(b,{s1 with at_:=s1.at_+1}):=by unfold PR.byte;rw [hb]
   rw [eb] at R2 okc2 hd' ⊢;have hb256:b<256:=R.byt b (Bg hb);have hat:=W1.at_;have hlen:=R.len;obtain ⟨k,hkk⟩: ∃k,q.bytes[b]? =some k:=⟨_,Bd (by omega)⟩;have hk256:=hb8 k (Bg hkk);have hkl:=hk k (Bg hkk);have gk:q.bytes.getD b 0=k:=by rw [Bf,hkk];rfl
   have gB:(stC q wv bs)[9+b*1]? =some (.int 255 (k:Int)):=by
    unfold stC;rw [Bl (by simp),hby];show (aI q.bytes)[9+b*1-9]? =_;rw [show 9+b*1-9=b by omega];exact py hkk
   obtain ⟨stp2,y2,sl2,st2,ct2,cl2,QQ2,hp2,p2,p3,pk,p4,p5⟩:=R2.ex;have R3:=R2.upd (s':=s1) (stp':=stp2) (y':=y2) p2 p3 pk p4 p5;have hp2':=hp2;unfold rdL at hp2';have hpl2:=aJ hp2;have hz3: ∀Y,ab (h2.set p Y) h.length=some (.cells (stC q wv bs) (349+1)):=fun Y=>by rw [ae (R2.iV e2.2)];exact hz2
   have w1:aQ 9223372036854775807 (((s1.at_+1:Nat):Int)-1)=(s1.at_:Int):=by rw [bp (by omega) (by omega)];simp
   have w2:aQ 9223372036854775807 (k:Int)=(k:Int):=bp (by omega) (by omega);have gb:decide (b<256)=true:=decide_eq_true hb256;have fin3: ∀{s':PR} {h':AH},Nx h.length m K kd2 (h2.set p (some (.cells (rdL K c s1 stp2 sl2 st2 ct2 cl2) y2))) p c s' h'→Nx h.length m K kd h p c s' h':=fun nx=>fin2 (by
    obtain ⟨kd',R',l',f'⟩:=nx;rw [Bb] at l';exact ⟨kd',R',l',fun i hi hi0=>⟨(f' i hi hi0).1.trans (ae (R2.iV hi0) _),(f' i hi hi0).2⟩⟩)
   show Ends (fun x h'=>x= .int 9223372036854775807 ((if q.bytes.getD b 0=0 then ((0:Nat),s1.cd 212 s1.at_) else _:Nat×PR).1:Int)∧Nx h.length m K kd h p c (if q.bytes.getD b 0=0 then ((0:Nat),s1.cd 212 s1.at_) else _:Nat×PR).2 h') _;rw [gk]
   by_cases hk0:k=0
   ·rw [if_pos hk0]
    have g:decide ((k:Int)=0)=true:=by rw [decide_eq_true_iff];omega
    simp only [sy,A7,seval,okc2,decide_eq_true hd',hp2',n64,w1,hz3,gb,gB,w2,g,aq hpl2];refine cy (gD R3 212 s1.at_ (f+8)).call ?_;rintro x h3 ⟨rfl,R4,n4,f4⟩;simp only [sy,A7,seval,qi];exact Ends.mk ⟨rfl,fin3 ⟨kd2,R4,by omega,fun i hi hi0=>⟨f4 i (by rw [hi0];decide),hi0⟩⟩⟩
   ·rw [if_neg hk0]
    have g:decide ((k:Int)=0)=false:=by rw [decide_eq_false_iff_not];omega
    obtain ⟨h3,hh3⟩: ∃h3,h3=h2.set p (some (.cells (rdL K c s1 stp2 sl2 st2 ct2 cl2) y2)):=⟨_,rfl⟩;have hh4:=hh3;unfold rdL at hh4;simp only [n64] at hh4;rw [←hh3] at R3;have hz4:ab h3 h.length=some (.cells (stC q wv bs) (349+1)):=by rw [hh3];exact hz3 _
    have O3:RdR h3 (fun b=>b<m) 2 wv (q.ways.map wL):=O0.mono fun b hb hs=>⟨hs,by
     have:=R.ml
     rw [hh3,ae (R2.iV (R2.lo b hs)),(f2 b (by omega) (R1.lo b hs)).1,(f1 b (by omega) (by rw [cF (by omega)];exact R.lo b hs)).1]⟩
    simp only [sy,A7,seval,okc2,decide_eq_true hd',hp2',n64,w1,hz3,gb,gB,w2,g,aq hpl2];rw [←hh4];rw [←hh3] at fin3;clear hh4;obtain ⟨stp3,y3,sl3,st3,ct3,cl3,QQ3,hp3,r2,r3,rk,r4,r5⟩:=R3.ex;have hp3':=hp3;unfold rdL at hp3';have hpl3:=aJ hp3;rw [hst1] at rk;obtain ⟨qt,Q1,rfl⟩: ∃q Q,QQ3=q::Q:=by
     cases QQ3 with
     |nil=>exact rk.elim
     |cons q Q=>exact ⟨q,Q,rfl⟩
    obtain ⟨rk1,rk2⟩:=rk;have hQ1:=rk2.len;have T:=rk1;unfold eX at T;obtain ⟨dv,kv,rfl,td,tks⟩:=T;have hstk:=W.stk;rw [Cf] at r3;obtain ⟨hr,⟨cc,_⟩|⟨bb,cap,ee,junk,yb,hbb,ob⟩⟩:=r3
    ·simp at cc
    have hbb:kd2 bb=3:=hbb;have hgt:(Q1.reverse++[[AV.int 18446744073709551615 ((0:Nat):Int),.bool false,dv,kv]])[s.stack.length]? =some [AV.int 18446744073709551615 ((0:Nat):Int),.bool false,dv,kv]:=by
     have:s.stack.length=Q1.reverse.length:=by rw [Cj,hQ1]
     rw [this];simp
    have el:=ob.el hr hgt;obtain ⟨st1,ob2⟩:=ob.st1 hr hgt (j:=0) (c:=.int 18446744073709551615 ((k-1:Nat):Int)) (by decide) rfl;have hset:(Q1.reverse++[[AV.int 18446744073709551615 ((0:Nat):Int),.bool false,dv,kv]]).set s.stack.length (List.set [AV.int 18446744073709551615 ((0:Nat):Int),.bool false,dv,kv] 0 (.int 18446744073709551615 ((k-1:Nat):Int)))=Q1.reverse++[[AV.int 18446744073709551615 ((k-1:Nat):Int),.bool false,dv,kv]]:=by
     have:s.stack.length=Q1.reverse.length:=by rw [Cj,hQ1]
     rw [this,mI];rfl
    rw [hset] at st1 ob2;have lens: ∀(h':AH) (κ:Ka),bG st3 h' κ=κ (.int 9223372036854775807 ((s.stack.length+1:Nat):Int)) h':=fun h' κ=>by
     rw [ob.val]
     have:(Q1.reverse++[[AV.int 18446744073709551615 ((0:Nat):Int),.bool false,dv,kv]]).length=s.stack.length+1:=by simp [hQ1]
     rw [this];rfl
    obtain ⟨P0,hP0⟩: ∃P,P=AV.pto bb (s.stack.length*4):=⟨_,rfl⟩;obtain ⟨M0,hM0⟩: ∃P,P=AV.pto bb (s.stack.length*4+0):=⟨_,rfl⟩;have ix: ∀(n:Nat) (h':AH) (κ:Ka),bM 4 st3 (.int n (s.stack.length:Int)) h' κ=κ P0 h':=fun n h' κ=>by rw [hP0];exact el.idx n h' κ
    have mv: ∀(h':AH) (κ:Ka),aj 0 P0 h' κ=κ M0 h':=fun h' κ=>by rw [hP0,hM0];rfl
    rw [←hM0] at st1;obtain ⟨X,hX⟩: ∃X,X=some (Blk.cells ((Q1.reverse++[[AV.int 18446744073709551615 ((k-1:Nat):Int),.bool false,dv,kv]]).flatten++junk) yb):=⟨_,rfl⟩;rw [←hX] at st1 ob2;have w3:aQ 9223372036854775807 (((s.stack.length+1:Nat):Int)-1)=(s.stack.length:Int):=by rw [bp (by omega) (by omega)];simp
    have w4:aQ 9223372036854775807 ((k:Int)-1)=((k-1:Nat):Int):=by rw [bp (by omega) (by omega)];omega
    have w5:aQ 18446744073709551615 ((k-1:Nat):Int)=((k-1:Nat):Int):=gv (by omega) (by omega);have ble:Nat.ble (ag h3) (ag (h3.set bb X))=true:=by rw [cq,ah,ah];simp
    have fr: ∀i,kd2 i≠3→ab (h3.set bb X) i=ab h3 i:=fun i hi=>ae (fun cc=>hi (by rw [←cc];exact hbb)) _
    have hz5:ab (h3.set bb X) h.length=some (.cells (stC q wv bs) (349+1)):=by rw [fr _ (by rw [e2.2];decide)];exact hz4
    have O4:RdR (h3.set bb X) (fun b=>b<m) 2 wv (q.ways.map wL):=O3.mono fun b _ hs=>⟨hs,fr b (by rw [R3.lo b hs];decide)⟩
    obtain ⟨w,hw⟩: ∃w,q.ways[k-1]? =some w:=⟨_,Bd (by omega)⟩;have gw:q.ways.getD (k-1) (0,0)=w:=by rw [Bf,hw];rfl
    obtain ⟨Pw,iw,_,elw⟩:=O4.el (i:=k-1) (q:=wL w) (by rw [Bn,hw];rfl)
    obtain ⟨Mw,mw,lw⟩:=elw 1 (.int 9223372036854775807 (w.2:Int)) rfl;rw [gw,hst1];simp only [sy,A7,seval,ajs,hp3',lens,w3,w4,w5,ix,mv,st1,ble,aiG,hz5,iL,iw,mw,lw,qi];have mm: ∀{j:Nat},j≠3→ ∀b',b'<h3.length→kd2 b'=j→kd2 b'=j∧ab (h3.set bb X) b'=ab h3 b':=fun hj b' hb' e=>⟨e,fr b' (by rw [e];exact hj)⟩
    refine Ends.mk ⟨rfl,fin3 ⟨kd2,R3.make (stp':=stp3) (y':=y3) (sl:=sl3) (st:=st3) (ct:=ct3) (cl:=cl3) (Q:=[AV.int 18446744073709551615 ((k-1:Nat):Int),.bool false,dv,kv]::Q1) R3.kp (fun i hi=>⟨R3.lo i hi,fr i (by rw [R3.lo i hi];decide)⟩) (by rw [Bb];exact A9 _) (by rw [fr p (by rw [R3.kp];decide)];exact hp3) (r2.mono (mm (by decide))) ?_ ?_ (r4.mono (mm (by decide))) (r5.mono (mm (by decide))),by rw [Bb];exact A9 _,fun i hi hi0=>⟨fr i (by rw [hi0];decide),hi0⟩⟩⟩
    ·rw [Cf]
     refine ⟨fun x hx=>?_,.inr ⟨bb,cap,ee,junk,yb,hbb,ob2⟩⟩;rcases Cd.1 hx with hx|hx
     ·exact hr x (Cr _ hx)
     ·obtain rfl:x=_:=by simpa using hx
      rfl
    ·refine ⟨?_,rk2.mono fun b' hb' g1 g2=>⟨rfl,fr b' (by omega)⟩⟩
     have t2:eX h3 (fun b=>kd2 b=6+s.stack.length) [AV.int 18446744073709551615 ((k-1:Nat):Int),.bool false,dv,kv] (.nd (k-1) false [] []):=by
      unfold eX;exact ⟨dv,kv,rfl,td,tks⟩
     exact t2.mono _ fun b' hb' hs'=>⟨hs',fr b' (by rw [hs'];omega)⟩
end
noncomputable section
def eY (v0 v1 v2 v5 G v7 E v9 v11 F D u C t B z w l d:AV):Tm:=(.nd 12 (.nd 6 (.nd 2 (.nd 1 (.lf 0 v0) (.lf 1 v1)) (.nd 5 (.lf 2 v2) (.lf 5 v5))) (.nd 8 (.nd 7 (.lf 6 G) (.lf 7 v7)) (.nd 9 (.lf 8 E) (.nd 11 (.lf 9 v9) (.lf 11 v11))))) (.nd 80 (.nd 31 (.nd 16 (.lf 12 F) (.lf 16 D)) (.nd 52 (.lf 31 u) (.nd 77 (.lf 52 C) (.lf 77 t)))) (.nd 90 (.nd 85 (.lf 80 B) (.lf 85 z)) (.nd 105 (.lf 90 w) (.nd 130 (.lf 105 l) (.lf 130 d))))))
def adf (mx:Int):K:=kAt [] (kOf (CL mx) 203)
def amu (mx:Int):K:=kAt [1,0] (kOf (CL mx) 203)
def alJ (mx:Int):K:=kAt [1,1] (kOf (CL mx) 203)
def auZ (mx:Int):K:=kAt [1,0,1,0,1,1,1,1,1,0,0] (kOf (CL mx) 203)
def au6 (mx:Int):K:=kAt [1,0,1,0,1,1,1,1,1,0,1] (kOf (CL mx) 203)
section
set_option maxRecDepth 100000
variable (mx:Int) (run:Run) (lp:Lp) (κn:Kt) (κx:Ex→Kt) (h:AH) (v0 v1 v2 v5 G v7 E v9 v11 F D u C t B z w l d:AV)
theorem ai6:kc (CL mx) run lp (adf mx) ⟨eY v0 v1 v2 v5 G v7 E v9 v11 F D u C t B z w l d,h⟩ κn κx=fQ 350 v2 h (fun a0 h=>kc (CL mx) run lp (amu mx) ⟨eY v0 v1 v2 a0 (.int 9223372036854775807 0) v7 E v9 v11 F D u C t B z w l d,h⟩ (fun s=>kc (CL mx) run lp (alJ mx) s κn κx) κx):=by kernel_rfl
theorem gE:kc (CL mx) run lp (amu mx) ⟨eY v0 v1 v2 v5 G v7 E v9 v11 F D u C t B z w l d,h⟩ κn κx=aj 0 v5 h (fun a0 h=>ao a0 h (fun a1 h=>cmp cD a1 (.int 9223372036854775807 11) h (fun a2 h=>bJ a2 (aj 1 v5 h (fun a3 h=>ao a3 h (fun a4 h=>κx .ret ⟨eY v0 v1 v2 v5 a4 v7 E v9 a1 a2 D u C t B z w l d,h⟩))) (cmp cD a1 (.int 9223372036854775807 10) h (fun a3 h=>bJ a3 (aM v0 h (fun a4 h=>aj 18 a4 h (fun a5 h=>ao a5 h (fun a6 h=>bG a6 h (fun a7 h=>arith jC a7 (.int 9223372036854775807 1) h (fun a8 h=>aM v0 h (fun a9 h=>aj 18 a9 h (fun a10 h=>ao a10 h (fun a11 h=>bM 1 a11 a8 h (fun a12 h=>ao a12 h (fun a13 h=>cmp cD a13 (.int 18446744073709551615 0) h (fun a14 h=>bJ a14 (aM v0 h (fun a15 h=>aj 18 a15 h (fun a16 h=>ao a16 h (fun a17 h=>slS 1 a17 none (some a8) none h (fun a18 h=>aM v0 h (fun a19 h=>aj 18 a19 h (fun a20 h=>bQ a20 a18 h (fun a21 h=>aj 1 v5 h (fun a22 h=>ao a22 h (fun a23 h=>κx .ret ⟨eY v0 v1 v2 v5 a23 a8 E v9 a1 a2 a3 a14 C t B z w l d,h⟩)))))))))) (aM v0 h (fun a15 h=>aj 18 a15 h (fun a16 h=>ao a16 h (fun a17 h=>bM 1 a17 a8 h (fun a18 h=>ao a18 h (fun a19 h=>arith jC a19 (.int 18446744073709551615 1) h (fun a20 h=>bM 1 a17 a8 h (fun a21 h=>bQ a21 a20 h (fun a22 h=>κn ⟨eY v0 v1 v2 v5 G a8 E v9 a1 a2 a3 a14 C t B z w l d,h⟩))))))))))))))))))))) (cmp cD a1 (.int 9223372036854775807 12) h (fun a4 h=>bJ a4 (kc (CL mx) run lp (auZ mx) ⟨eY v0 v1 v2 v5 G v7 E v9 a1 a2 a3 u a4 t B z w l d,h⟩ (fun s=>kc (CL mx) run lp (au6 mx) s κn (kcO 0 κn κx)) (kcO 0 κn κx)) (cmp cD a1 (.int 9223372036854775807 13) h (fun a5 h=>bJ a5 (aF 265 v5 h (fun a6 h=>aP (fun a7 h=>κx .ret ⟨eY v0 v1 v2 v5 a7 v7 E v9 a1 a2 a3 u a4 t a5 z w l d,h⟩) (aH (CL mx) run 240 [v0,a6] h))) (cmp cD a1 (.int 9223372036854775807 14) h (fun a6 h=>bJ a6 (aF 265 v5 h (fun a7 h=>aP (fun a8 h=>κx .ret ⟨eY v0 v1 v2 v5 a8 v7 E v9 a1 a2 a3 u a4 t a5 a6 w l d,h⟩) (aH (CL mx) run 241 [v0,a7] h))) (cmp cD a1 (.int 9223372036854775807 15) h (fun a7 h=>bJ a7 (aM v0 h (fun a8 h=>aj 19 a8 h (fun a9 h=>ao a9 h (fun a10 h=>arith cg v1 (.int 9223372036854775807 1) h (fun a11 h=>fA 1 1 [.int 9223372036854775807 0] [(0,a11)] h (fun a12 h=>gg 4 1 8 a10 a12 h (fun a13 h=>aM v0 h (fun a14 h=>aj 19 a14 h (fun a15 h=>bQ a15 a13 h (fun a16 h=>aj 1 v5 h (fun a17 h=>ao a17 h (fun a18 h=>κx .ret ⟨eY v0 v1 v2 v5 a18 v7 E v9 a1 a2 a3 u a4 t a5 a6 a7 l d,h⟩)))))))))))) (cmp cD a1 (.int 9223372036854775807 16) h (fun a8 h=>bJ a8 (aM v0 h (fun a9 h=>aj 19 a9 h (fun a10 h=>ao a10 h (fun a11 h=>bG a11 h (fun a12 h=>arith jC a12 (.int 9223372036854775807 1) h (fun a13 h=>aM v0 h (fun a14 h=>aj 19 a14 h (fun a15 h=>ao a15 h (fun a16 h=>bM 1 a16 a13 h (fun a17 h=>ao a17 h (fun a18 h=>aM v0 h (fun a19 h=>aj 19 a19 h (fun a20 h=>ao a20 h (fun a21 h=>slS 1 a21 none (some a13) none h (fun a22 h=>aM v0 h (fun a23 h=>aj 19 a23 h (fun a24 h=>bQ a24 a22 h (fun a25 h=>κx .ret ⟨eY v0 v1 v2 v5 a18 v7 a13 a18 a1 a2 a3 u a4 t a5 a6 a7 a8 d,h⟩)))))))))))))))))) (cmp cD a1 (.int 9223372036854775807 20) h (fun a9 h=>bJ a9 (κx .ret ⟨eY v0 v1 v2 v5 (.int 9223372036854775807 (-1)) v7 E v9 a1 a2 a3 u a4 t a5 a6 a7 a8 a9,h⟩) (κn ⟨eY v0 v1 v2 v5 G v7 E v9 a1 a2 a3 u a4 t a5 a6 a7 a8 a9,h⟩)))))))))))))))))):=by kernel_rfl
theorem aiu:kc (CL mx) run lp (alJ mx) ⟨eY v0 v1 v2 v5 G v7 E v9 v11 F D u C t B z w l d,h⟩ κn κx=arith cg v1 (.int 9223372036854775807 1) h (fun a0 h=>κx .ret ⟨eY v0 v1 v2 v5 a0 v7 E v9 v11 F D u C t B z w l d,h⟩):=by kernel_rfl
theorem jw:kcE (CL mx) [.tmp 6] ⟨eY v0 v1 v2 v5 G v7 E v9 v11 F D u C t B z w l d,h⟩=some (.vh G h):=(bW _ _ _).trans (by kernel_rfl)
theorem aqe:dz (CL mx) 203=some ⟨adf mx,[0,1,2,5,6,7,8,9,11,12,16,31,52,77,80,85,90,105,130],134,[.tmp 6]⟩:=by kernel_rfl
end
theorem aqb (mx:Int) (run:Run) (lp:Lp) (x0 x1 x2:AV) (h:AH):dk (CL mx) run lp 203 [x0,x1,x2] h=vhO (kc (CL mx) run lp (adf mx) ⟨eY x0 x1 x2 .bot .bot .bot .bot .bot .bot .bot .bot .bot .bot .bot .bot .bot .bot .bot .bot,h⟩ (kcE (CL mx) [.tmp 6]) (kcQ (CL mx) [.tmp 6])):=(bV (by kernel_rfl) (aqe mx) (by kernel_rfl)).trans (by kernel_rfl)
end
section
variable {mx:Int} {m:Nat} {K:RC} {kd:Nat→Nat} {h:AH} {p:Nat} {c:PC} {s:PR}
def stI:Option Nat→Int
 |some j=>j
 |none=> -1
theorem ar3 (x:AV) (h:AH):eo (h++[some (.cells [x] 0)]) 1 1 (.slo h.length 0 1 1 1 true)=some [x]:=by
 unfold eo;simp only [aD];rfl
theorem agw {j:Nat} {v x:AV} {rows:List (List AV)} (o:OwR h (fun b=>kd b=j) 1 v rows) (hp:x.plain=true) (hl:rows.length≤100000) (ty:Nat) {by_:Nat} (hby:by_≤1000):
 ∃v' h3,(∀κ:Ka,gg ty 1 by_ v (.slo h.length 0 1 1 1 true) (h++[some (.cells [x] 0)]) κ=κ v' h3)∧OwR h3 (fun i=>(kd i=j∧i<h.length)∨i=h.length+1) 1 v' (rows++[[x]])∧h.length+1≤h3.length∧ ∀i,kd i≠j→i<h.length→ab h3 i=ab h i:=by
 have r2:OwR (h++[some (Blk.cells [x] 0)]) (fun b=>kd b=j∧b<h.length) 1 v rows:=o.mono fun b hb hs=>⟨⟨hs,hb⟩,ak hb _⟩
 obtain ⟨v',h1,a1,a2,a3,a4⟩:=r2.app ty hby (by decide) (x:=.slo h.length 0 1 1 1 true) (q:=[x]) rfl (ar3 x h) rfl (by show and x.plain true=true;rw [hp];rfl) hl
 have hlen:(h++[some (Blk.cells [x] 0)]).length=h.length+1:=by simp
 rw [hlen] at a2 a3 a4;exact ⟨v',h1,a1,a2,a3,fun i hi hl=>by rw [a4 i (fun cc=>hi cc.1) (by omega),ak hl]⟩
def PreT (m:Nat) (h:AH) (wv:AV) (bs:List AV) (q:PS) (s:PR):Prop:=
 (q.kind=11∧0≤q.a)∨(q.kind=10∧0≤q.a∧s.counts≠[]∧s.counts.length≤100000∧ ∀n∈s.counts,n<18446744073709551616)∨(q.kind=12∧False)∨
 (q.kind=13∧False)∨
 (q.kind=15∧0≤q.a∧s.calls.length≤100000)∨(q.kind=16∧s.calls≠[]∧s.calls.length≤100000)∨q.kind=20∨(q.kind=14∧bs=aI q.bytes∧RdR h (fun b=>b<m) 2 wv (q.ways.map wL)∧(∀x∈q.bytes,x<256)∧(∀x∈q.bytes,x≤q.ways.length)∧q.ways.length≤1000)
theorem ahX (R:RS m K kd h p c s) (W:Wf c s) (W1:Wf c (s.open_ c)) {q:PS} {wv:AV} {bs:List AV} (hbs:(stC q wv bs).length=265) (hpl:aO (stC q wv bs)=true) (hk:PreT m h wv bs q s) {i:Nat} (hi:i≤1000000) (f:Nat):
 aL (fun x h'=>x= .int 9223372036854775807 (stI (s.step c q i).1)∧Nx h.length m K kd h p c (s.step c q i).2 h') ((rl (CL mx) (f+q.ways.length+20)).run 203 [.pto p 0,.int 9223372036854775807 (i:Int),.agg (stC q wv bs)] h):=by
 refine aL.runs (n:=f+q.ways.length+19) (aqb mx _ _ _ _ _ _) ?_;have hz:=aD h (some (Blk.cells (stC q wv bs) (349+1)));have R0:=R.grow (h':=h++[some (Blk.cells (stC q wv bs) (349+1))]) (by simp) (fun i hi=>ak hi _);have bx: ∀κ:Ka,fQ (349+1) (.agg (stC q wv bs)) h κ=κ (.pto h.length 0) (h++[some (Blk.cells (stC q wv bs) (349+1))]):=fun κ=>by rw [dK];rfl
 have fz: ∀i,i<h.length→ab (h++[some (Blk.cells (stC q wv bs) (349+1))]) i=ab h i:=fun i hi=>ak hi _
 have hl0:(h++[some (Blk.cells (stC q wv bs) (349+1))]).length=h.length+1:=by simp
 have k0:dF kd h.length 0 h.length=0:=iY (A9 _);have gl:decide (265≤(stC q wv bs).length)=true:=by rw [hbs];rfl
 have tk:List.take 265 (stC q wv bs)=stC q wv bs:=by rw [←hbs,Cc]
 have f0:h.length≤(h++[some (Blk.cells (stC q wv bs) (349+1))]).length∧ ∀i,i<h.length→kd i=0→ab (h++[some (Blk.cells (stC q wv bs) (349+1))]) i=ab h i∧dF kd h.length 0 i=0:=⟨by omega,fun i hi h0=>⟨fz i hi,by rw [cF hi];exact h0⟩⟩
 have w1:aQ 9223372036854775807 ((i:Int)+1)=((i+1:Nat):Int):=by rw [bp (by omega) (by omega)];simp
 refine wEq (ai6 ..) ?_;refine wEq (bx _) ?_;have ow0: ∀{v:AV} {rows:List (List AV)},RdR h (fun b=>b<m) 2 v rows→RdR (h++[some (Blk.cells (stC q wv bs) (349+1))]) (fun b=>b<m) 2 v rows:=fun o=>o.mono fun b hb hs=>⟨hs,fz b hb⟩
 generalize h++[some (Blk.cells (stC q wv bs) (349+1))]=h0 at*
 obtain ⟨stp,y,sl,st,ct,cl,QQ,hp,o2,o3,ok,o4,o5⟩:=R0.ex;have hp':=hp;unfold rdL at hp';have hpl0:=aJ hp;have fin: ∀{s':PR} {h':AH},Nx h0.length m K (dF kd h.length 0) h0 p c s' h'→Nx h.length m K kd h p c s' h':=fun nx=>by
  obtain ⟨kd',R',l',f'⟩:=nx;exact ⟨kd',R',by omega,fun i hi hi0=>⟨(f' i (by omega) (f0.2 i hi hi0).2).1.trans (fz i hi),(f' i (by omega) (f0.2 i hi hi0).2).2⟩⟩
 rcases hk with ⟨k,ha⟩|⟨k,ha,c0,c1,c2⟩|⟨k,ha⟩|⟨k,hw⟩|⟨k,ha,c1⟩|⟨k,c0,c1⟩|k|⟨k,hby,hw,hb8,hkk,hwl⟩
 ·have k':(q.kind:Int)=11:=by omega
  have e:s.step c q i=(some q.a.toNat,s):=by unfold PR.step;simp [k]
  rw [e];simp only [sy,A7,seval,gE,hz,iL,k',Int.reduceEq,decide_true,decide_false,jw];exact Ends.mk ⟨by show _=AV.int _ ((q.a.toNat:Nat):Int);rw [Int.toNat_of_nonneg ha],fin ⟨_,R0,A9 _,fun i hi h0=>⟨rfl,h0⟩⟩⟩
 ·have k':(q.kind:Int)=10:=by omega
  obtain ⟨n,r,hcs⟩: ∃n r,s.counts=n::r:=by
   cases hc:s.counts with
   |nil=>exact absurd hc c0
   |cons n r=>exact ⟨n,r,rfl⟩
  have o4':=o4;rw [hcs,Cf] at o4';have hn:=c2 n (by rw [hcs];exact BB ..);have hrl:r.length+1≤100000:=by rw [hcs] at c1;exact c1
  obtain ⟨P,b,X,ix,ld,hs,st1,o'⟩:=uz o4' (i:=r.length) (by simp) (n-1);have hs:dF kd h.length 0 b=4:=hs;have gn:(r.reverse++[n]).getD r.length 0=n:=by simp [Bf]
  have sn:(r.reverse++[n]).set r.length (n-1)=((n-1)::r).reverse:=by
   have:=mI r.reverse [] n (n-1)
   rw [Cj] at this;rw [this,Cf]
  rw [gn] at ld;rw [sn] at o';have len:=fun (h':AH) (κ:Ka)=>o4'.bG h' κ
  rw [BI,A7,Cj] at len;have len: ∀(h':AH) (κ:Ka),bG ct h' κ=κ (.int 9223372036854775807 ((r.length+1:Nat):Int)) h':=len;have w2:aQ 9223372036854775807 (((r.length+1:Nat):Int)-1)=(r.length:Int):=by rw [bp (by omega) (by omega)];simp
  by_cases hn0:n=0
  ·have e:s.step c q i=(some q.a.toNat,{s with counts:=r}):=by unfold PR.step;simp [k,hcs,hn0]
   rw [e];have g:decide ((n:Int)=0)=true:=by rw [decide_eq_true_iff];omega
   obtain ⟨v',c3,c4⟩:=o4'.cut (by decide) (by simp) (m:=r.length) (by simp) 9223372036854775807;have ht:(List.map (fun n=>[U64 n]) (r.reverse++[n])).take r.length=List.map (fun n=>[U64 n]) r.reverse:=by
    rw [Co,BM (by simp),Ch (by simp)]
   rw [ht] at c4;simp only [sy,A7,seval,gE,hz,iL,k',Int.reduceEq,decide_true,decide_false,hp',len,w2,ix,ld,g,c3,c4.plain,ae (R0.iV k0),jw];have R2:=R0.upd (s':={s with counts:=r}) (stp':=stp) (y':=y) o2 o3 ok c4 o5;exact Ends.mk ⟨by show _=AV.int _ ((q.a.toNat:Nat):Int);rw [Int.toNat_of_nonneg ha],fin ⟨_,R2,by rw [Bb];exact A9 _,fun i hi h0=>⟨ae (R0.iV h0) _,h0⟩⟩⟩
  ·have e:s.step c q i=(some (i+1),{s with counts:=(n-1)::r}):=by unfold PR.step;simp [k,hcs,hn0]
   rw [e];have g:decide ((n:Int)=0)=false:=by rw [decide_eq_false_iff_not];omega
   have w3:aQ 18446744073709551615 ((n:Int)-1)=((n-1:Nat):Int):=by rw [gv (by omega) (by omega)];omega
   simp only [sy,A7,seval,gE,aiu,hz,iL,k',Int.reduceEq,decide_true,decide_false,hp',len,w1,w2,w3,ix,ld,g,st1,jw];have fr: ∀i,dF kd h.length 0 i≠4→ab (h0.set b X) i=ab h0 i:=fun i hi=>ae (fun cc=>hi (by rw [←cc];exact hs)) _
   have mm: ∀{j:Nat},j≠4→ ∀b',b'<h0.length→dF kd h.length 0 b'=j→dF kd h.length 0 b'=j∧ab (h0.set b X) b'=ab h0 b':=fun hj b' hb' e=>⟨e,fr b' (by rw [e];exact hj)⟩
   refine Ends.mk ⟨rfl,fin ⟨_,R0.make (s':={s with counts:=(n-1)::r}) (stp':=stp) (y':=y) (sl:=sl) (st:=st) (ct:=ct) (cl:=cl) (Q:=QQ) R0.kp (fun i hi=>⟨R0.lo i hi,fr i (by rw [R0.lo i hi];decide)⟩) (by rw [Bb];exact A9 _) (by rw [fr p (by rw [R0.kp];decide)];exact hp) (o2.mono (mm (by decide))) (o3.mono (mm (by decide))) (ok.mono fun b' hb' h1 _=>⟨rfl,fr b' (by omega)⟩) o' (o5.mono (mm (by decide))),by rw [Bb];exact A9 _,fun i hi h0=>⟨fr i (by rw [h0];decide),h0⟩⟩⟩
 ·exact ha.elim
 ·exact hw.elim
 ·have k':(q.kind:Int)=15:=by omega
  have e:s.step c q i=(some q.a.toNat,{s with calls:=(i+1)::s.calls}):=by unfold PR.step;simp [k]
  rw [e];obtain ⟨v',h3,a1,a2,a3,a4⟩:=agw o5 (x:=N64 (i+1)) rfl (by simpa using c1) (3+1) (by_:=8) (by decide);have hp3:ab h3 p=some (.cells (rdL K c s stp sl st ct cl) y):=by rw [a4 p (by rw [R0.kp];decide) hpl0];exact hp
  have hz3:ab h3 h.length=some (.cells (stC q wv bs) (349+1)):=by rw [a4 _ (by rw [k0];decide) (by omega)];exact hz
  have hp3':=hp3;unfold rdL at hp3';rw [show N64 (i+1)= .int 9223372036854775807 ((i+1:Nat):Int) from rfl] at a1;have pl:v'.plain=true:=a2.plain;simp only [sy,A7,seval,gE,hz,iL,k',Int.reduceEq,decide_true,decide_false,hp',w1,ame,a1,hp3',pl,ae (R0.iV k0),hz3,jw]
  let kd2:Nat→Nat:=fun i=>if i<h0.length then dF kd h.length 0 i else if i=h0.length+1 then 5 else 0
  have k2l: ∀i,i<h0.length→kd2 i=dF kd h.length 0 i:=fun i hi=>if_pos hi
  have k2n:kd2 (h0.length+1)=5:=by show (if h0.length+1<h0.length then _ else if h0.length+1=h0.length+1 then 5 else 0)=5;rw [if_neg (by omega),if_pos rfl]
  have fr: ∀i,i<h0.length→dF kd h.length 0 i≠5→i≠p→ ∀Y,ab (h3.set p Y) i=ab h0 i:=fun i hi h5 hip Y=>by rw [ae (Ne.symm hip),a4 i h5 hi]
  have mm: ∀{j:Nat} {Y:Option Blk},j≠1→j≠5→ ∀b',b'<h0.length→dF kd h.length 0 b'=j→kd2 b'=j∧ab (h3.set p Y) b'=ab h0 b':=fun h1' h5' b' hb' e=>⟨by rw [k2l _ hb'];exact e,fr b' hb' (by rw [e];exact h5') (fun cc=>h1' (by rw [←e,cc];exact R0.kp)) _⟩
  have hml:=R0.ml;refine Ends.mk ⟨by show _=AV.int _ ((q.a.toNat:Nat):Int);rw [Int.toNat_of_nonneg ha],fin ⟨kd2,R0.make (s':={s with calls:=(i+1)::s.calls}) (stp':=stp) (y':=y) (sl:=sl) (st:=st) (ct:=ct) (cl:=v') (Q:=QQ) (by rw [k2l p hpl0];exact R0.kp) (fun i hi=>⟨by rw [k2l i (by omega)];exact R0.lo i hi,fr i (by omega) (by rw [R0.lo i hi];decide) (Ne.symm (R0.iV (R0.lo i hi))) _⟩) (by rw [Bb];omega) (aq (by omega) _) (o2.mono (mm (by decide) (by decide))) (o3.mono (mm (by decide) (by decide))) (ok.mono fun b' hb' h1 _=>⟨k2l b' hb',fr b' hb' (by omega) (fun cc=>by rw [cc,R0.kp] at h1;omega) _⟩) (o4.mono (mm (by decide) (by decide))) ?_,by rw [Bb];omega,fun i hi h0'=>⟨fr i hi (by rw [h0'];decide) (Ne.symm (R0.iV h0')) _,by rw [k2l i hi];exact h0'⟩⟩⟩;have hmp:(List.map (fun n=>[N64 n]) s.calls.reverse++[[N64 (i+1)]])=List.map (fun n=>[N64 n]) ((i+1)::s.calls).reverse:=by simp
  rw [hmp] at a2;refine a2.mono fun b' hb' hs'=>?_
  rcases hs' with ⟨hs',hlt⟩|rfl
  ·exact ⟨by show kd2 b'=5;rw [k2l b' hlt];exact hs',ae (fun cc=>by rw [←cc,R0.kp] at hs';cases hs') _⟩
  ·exact ⟨k2n,ae (by omega) _⟩
 ·have k':(q.kind:Int)=16:=by omega
  obtain ⟨n,r,hcs⟩: ∃n r,s.calls=n::r:=by
   cases hc:s.calls with
   |nil=>exact absurd hc c0
   |cons n r=>exact ⟨n,r,rfl⟩
  have o5':=o5;rw [hcs,Cf] at o5';have hrl:r.length+1≤100000:=by rw [hcs] at c1;exact c1
  have e:s.step c q i=(some n,{s with calls:=r}):=by unfold PR.step;simp [k,hcs]
  rw [e];obtain ⟨b,_,el⟩:=o5'.el (i:=r.length) (q:=[N64 n]) (by simp);have ix:=el.idx;have ld:=el.ld1 0 (N64 n) rfl;rw [Do] at ld;obtain ⟨P,hPP⟩: ∃P,P=AV.pto b (r.length*1):=⟨_,rfl⟩;rw [←hPP] at ix ld;have len:=fun (h':AH) (κ:Ka)=>o5'.bG h' κ
  rw [BI,A7,Cj] at len;have len: ∀(h':AH) (κ:Ka),bG cl h' κ=κ (.int 9223372036854775807 ((r.length+1:Nat):Int)) h':=len;have w2:aQ 9223372036854775807 (((r.length+1:Nat):Int)-1)=(r.length:Int):=by rw [bp (by omega) (by omega)];simp
  obtain ⟨v',c3,c4⟩:=o5'.cut (by decide) (by simp) (m:=r.length) (by simp) 9223372036854775807;have ht:(List.map (fun n=>[N64 n]) (r.reverse++[n])).take r.length=List.map (fun n=>[N64 n]) r.reverse:=by
   rw [Co,BM (by simp),Ch (by simp)]
  rw [ht] at c4;simp only [sy,A7,seval,gE,hz,iL,k',Int.reduceEq,decide_true,decide_false,hp',len,w2,ix,ld,c3,c4.plain,jw];have R2:=R0.upd (s':={s with calls:=r}) (stp':=stp) (y':=y) o2 o3 ok o4 c4;exact Ends.mk ⟨rfl,fin ⟨_,R2,by rw [Bb];exact A9 _,fun i hi h0=>⟨ae (R0.iV h0) _,h0⟩⟩⟩
 ·have k':(q.kind:Int)=20:=by omega
  have e:s.step c q i=(none,s):=by unfold PR.step;simp [k]
  rw [e];simp only [sy,A7,seval,gE,hz,iL,k',Int.reduceEq,decide_true,decide_false,jw];exact Ends.mk ⟨rfl,fin ⟨_,R0,A9 _,fun i hi h0=>⟨rfl,h0⟩⟩⟩
 ·have k':(q.kind:Int)=14:=by omega
  have e:s.step c q i=(some (s.choose c q).1,(s.choose c q).2):=by unfold PR.step;simp [k]
  rw [e];simp only [sy,A7,seval,gE,hz,iL,k',Int.reduceEq,decide_true,decide_false,gl,tk];refine cy (aiy (mx:=mx) R0 W W1 hbs hpl hby (ow0 hw) hb8 hkk hwl (f+q.ways.length+9)).call ?_;rintro x h' ⟨rfl,nx⟩;simp only [sy,A7,seval,jw];exact Ends.mk ⟨rfl,fin nx⟩
end
noncomputable section
def bO (v0 v1 T v5 O v7 S E J H G N M I L v76 F D B w o g:AV):Tm:=(.nd 38 (.nd 7 (.nd 4 (.nd 1 (.lf 0 v0) (.lf 1 v1)) (.nd 5 (.lf 4 T) (.nd 6 (.lf 5 v5) (.lf 6 O)))) (.nd 23 (.nd 8 (.lf 7 v7) (.nd 18 (.lf 8 S) (.lf 18 E))) (.nd 28 (.lf 23 J) (.nd 32 (.lf 28 H) (.lf 32 G))))) (.nd 84 (.nd 63 (.nd 50 (.lf 38 N) (.lf 50 M)) (.nd 71 (.lf 63 I) (.nd 76 (.lf 71 L) (.lf 76 v76)))) (.nd 138 (.nd 107 (.lf 84 F) (.nd 124 (.lf 107 D) (.lf 124 B))) (.nd 152 (.lf 138 w) (.nd 185 (.lf 152 o) (.lf 185 g))))))
def adB (mx:Int):K:=kAt [] (kOf (CL mx) 137)
def amb (mx:Int):K:=kAt [1,1,0] (kOf (CL mx) 137)
def amO (mx:Int):K:=kAt [1,1,1] (kOf (CL mx) 137)
def aow (mx:Int):K:=kAt [1,1,0,1,0,1,1,1,1,0] (kOf (CL mx) 137)
def akf (mx:Int):K:=kAt [1,1,0,1,0,1,1,1,1,1] (kOf (CL mx) 137)
def awq (mx:Int):K:=kAt [1,1,0,1,0,1,1,1,1,1,1,1,0] (kOf (CL mx) 137)
def alE (mx:Int):K:=kAt [1,1,0,1,0,1,1,1,1,1,1,1,1,1,0,1,0] (kOf (CL mx) 137)
def alh (mx:Int):K:=kAt [1,1,0,1,0,1,1,1,1,1,1,1,1,1,0,1,1] (kOf (CL mx) 137)
def avL (mx:Int):K:=kAt [1,1,0,1,0,1,1,1,1,1,1,1,1,1,1,1,1,1,0,0] (kOf (CL mx) 137)
def avc (mx:Int):K:=kAt [1,1,0,1,0,1,1,1,1,1,1,1,1,1,1,1,1,1,0,1] (kOf (CL mx) 137)
def afq (mx:Int):K:=kAt [1,1,0,1,0,1,1,1,1,1,1,1,1,1,1,1,1,1,1,1,0,1] (kOf (CL mx) 137)
def ar8 (mx:Int):K:=kAt [1,1,0,1,0,1,1,1,1,1,1,1,1,1,1,1,1,1,1,1,1,1,0] (kOf (CL mx) 137)
def asu (mx:Int):K:=kAt [1,1,0,1,0,1,1,1,1,1,1,1,1,1,1,1,1,1,1,1,1,1,1,1,0] (kOf (CL mx) 137)
def aqn (mx:Int):K:=kAt [1,1,0,1,0,1,1,1,1,1,1,1,1,1,1,1,1,1,1,1,1,1,1,1,1,1,0,0] (kOf (CL mx) 137)
def asP (mx:Int):K:=kAt [1,1,0,1,0,1,1,1,1,1,1,1,1,1,1,1,1,1,1,1,1,1,1,1,1,1,0,1] (kOf (CL mx) 137)
def x8:List AV:=[.int 9223372036854775807 0,.int 9223372036854775807 0,.int 9223372036854775807 0,.bool false,.int 18446744073709551615 0,.int 18446744073709551615 0,.int 18446744073709551615 0,.int 18446744073709551615 0,.aa,.int 255 0,.int 255 0,.int 255 0,.int 255 0,.int 255 0,.int 255 0,.int 255 0,.int 255 0,.int 255 0,.int 255 0,.int 255 0,.int 255 0,.int 255 0,.int 255 0,.int 255 0,.int 255 0,.int 255 0,.int 255 0,.int 255 0,.int 255 0,.int 255 0,.int 255 0,.int 255 0,.int 255 0,.int 255 0,.int 255 0,.int 255 0,.int 255 0,.int 255 0,.int 255 0,.int 255 0,.int 255 0,.int 255 0,.int 255 0,.int 255 0,.int 255 0,.int 255 0,.int 255 0,.int 255 0,.int 255 0,.int 255 0,.int 255 0,.int 255 0,.int 255 0,.int 255 0,.int 255 0,.int 255 0,.int 255 0,.int 255 0,.int 255 0,.int 255 0,.int 255 0,.int 255 0,.int 255 0,.int 255 0,.int 255 0,.int 255 0,.int 255 0,.int 255 0,.int 255 0,.int 255 0,.int 255 0,.int 255 0,.int 255 0,.int 255 0,.int 255 0,.int 255 0,.int 255 0,.int 255 0,.int 255 0,.int 255 0,.int 255 0,.int 255 0,.int 255 0,.int 255 0,.int 255 0,.int 255 0,.int 255 0,.int 255 0,.int 255 0,.int 255 0,.int 255 0,.int 255 0,.int 255 0,.int 255 0,.int 255 0,.int 255 0,.int 255 0,.int 255 0,.int 255 0,.int 255 0,.int 255 0,.int 255 0,.int 255 0,.int 255 0,.int 255 0,.int 255 0,.int 255 0,.int 255 0,.int 255 0,.int 255 0,.int 255 0,.int 255 0,.int 255 0,.int 255 0,.int 255 0,.int 255 0,.int 255 0,.int 255 0,.int 255 0,.int 255 0,.int 255 0,.int 255 0,.int 255 0,.int 255 0,.int 255 0,.int 255 0,.int 255 0,.int 255 0,.int 255 0,.int 255 0,.int 255 0,.int 255 0,.int 255 0,.int 255 0,.int 255 0,.int 255 0,.int 255 0,.int 255 0,.int 255 0,.int 255 0,.int 255 0,.int 255 0,.int 255 0,.int 255 0,.int 255 0,.int 255 0,.int 255 0,.int 255 0,.int 255 0,.int 255 0,.int 255 0,.int 255 0,.int 255 0,.int 255 0,.int 255 0,.int 255 0,.int 255 0,.int 255 0,.int 255 0,.int 255 0,.int 255 0,.int 255 0,.int 255 0,.int 255 0,.int 255 0,.int 255 0,.int 255 0,.int 255 0,.int 255 0,.int 255 0,.int 255 0,.int 255 0,.int 255 0,.int 255 0,.int 255 0,.int 255 0,.int 255 0,.int 255 0,.int 255 0,.int 255 0,.int 255 0,.int 255 0,.int 255 0,.int 255 0,.int 255 0,.int 255 0,.int 255 0,.int 255 0,.int 255 0,.int 255 0,.int 255 0,.int 255 0,.int 255 0,.int 255 0,.int 255 0,.int 255 0,.int 255 0,.int 255 0,.int 255 0,.int 255 0,.int 255 0,.int 255 0,.int 255 0,.int 255 0,.int 255 0,.int 255 0,.int 255 0,.int 255 0,.int 255 0,.int 255 0,.int 255 0,.int 255 0,.int 255 0,.int 255 0,.int 255 0,.int 255 0,.int 255 0,.int 255 0,.int 255 0,.int 255 0,.int 255 0,.int 255 0,.int 255 0,.int 255 0,.int 255 0,.int 255 0,.int 255 0,.int 255 0,.int 255 0,.int 255 0,.int 255 0,.int 255 0,.int 255 0,.int 255 0,.int 255 0,.int 255 0,.int 255 0,.int 255 0,.int 255 0,.int 255 0,.int 255 0,.int 255 0,.int 255 0,.int 255 0,.int 255 0,.int 255 0,.int 255 0,.int 255 0,.int 255 0,.int 255 0,.int 255 0,.int 255 0,.int 255 0,.int 255 0,.int 255 0,.int 255 0,.int 255 0,.int 255 0,.int 255 0,.int 255 0,.int 255 0,.int 255 0,.int 255 0,.int 255 0,.int 255 0]
section
set_option maxRecDepth 100000
variable (mx:Int) (run:Run) (lp:Lp) (κn:Kt) (κx:Ex→Kt) (h:AH) (v0 v1 T v5 O v7 S E J H G N M I L v76 F D B w o g:AV)
theorem ail:kc (CL mx) run lp (adB mx) ⟨bO v0 v1 T v5 O v7 S E J H G N M I L v76 F D B w o g,h⟩ κn κx=aM v0 h (fun a0 h=>aj 0 a0 h (fun a1 h=>aj 0 a1 h (fun a2 h=>ao a2 h (fun a3 h=>bM 265 a3 v1 h (fun a4 h=>aF 265 a4 h (fun a5 h=>cU h (.cells x8 350) (fun a6 h=>ay 265 a6 a5 h (fun a7 h=>kc (CL mx) run lp (amb mx) ⟨bO v0 v1 (.int 9223372036854775807 0) a6 O v7 S E J H G N M I L v76 F D B w o g,h⟩ (fun s=>kc (CL mx) run lp (amO mx) s κn κx) κx)))))))):=by kernel_rfl
theorem gA:kc (CL mx) run lp (amb mx) ⟨bO v0 v1 T v5 O v7 S E J H G N M I L v76 F D B w o g,h⟩ κn κx=aj 0 v5 h (fun a0 h=>ao a0 h (fun a1 h=>cmp cD a1 (.int 9223372036854775807 1) h (fun a2 h=>bJ a2 (dX (placeOf (CL mx) [(0,64),(1,4),(2,22),(3,65)]) [.int 18446744073709551615 0,.bool false,.aa,.aa] [] h (fun a3 h=>aP (fun a4 h=>κn ⟨bO v0 v1 T v5 O v7 S a1 a2 H G N M I L v76 F D B w o g,h⟩) (aH (CL mx) run 194 [v0,a3] h))) (cmp cD a1 (.int 9223372036854775807 2) h (fun a3 h=>bJ a3 (aP (fun a4 h=>κn ⟨bO v0 v1 T v5 O v7 S a1 a2 a3 G N M I L v76 F D B w o g,h⟩) (aH (CL mx) run 195 [v0] h)) (kc (CL mx) run lp (aow mx) ⟨bO v0 v1 T v5 O v7 S a1 a2 a3 G N M I L v76 F D B w o g,h⟩ (fun s=>kc (CL mx) run lp (akf mx) s κn (kcO 0 κn κx)) (kcO 0 κn κx))))))):=by kernel_rfl
theorem fG:kc (CL mx) run lp (amO mx) ⟨bO v0 v1 T v5 O v7 S E J H G N M I L v76 F D B w o g,h⟩ κn κx=arith cg v1 (.int 9223372036854775807 1) h (fun a0 h=>κx .ret ⟨bO v0 v1 a0 v5 O v7 S E J H G N M I L v76 F D B w o g,h⟩):=by kernel_rfl
theorem kj:kc (CL mx) run lp (aow mx) ⟨bO v0 v1 T v5 O v7 S E J H G N M I L v76 F D B w o g,h⟩ κn κx=cmp cD E (.int 9223372036854775807 3) h (fun a0 h=>bJ a0 (κn ⟨bO v0 v1 T v5 O v7 S E J H a0 N M I L v76 F D B w o g,h⟩) (cmp cD E (.int 9223372036854775807 4) h (fun a1 h=>κn ⟨bO v0 v1 T v5 O v7 S E J H a1 N M I L v76 F D B w o g,h⟩))):=by kernel_rfl
theorem kV:kc (CL mx) run lp (akf mx) ⟨bO v0 v1 T v5 O v7 S E J H G N M I L v76 F D B w o g,h⟩ κn κx=bJ G (aF 265 v5 h (fun a0 h=>aP (fun a1 h=>κn ⟨bO v0 v1 T v5 O v7 S E J H G N M I L v76 F D B w o g,h⟩) (aH (CL mx) run 196 [v0,a0] h))) (cmp cD E (.int 9223372036854775807 5) h (fun a0 h=>bJ a0 (kc (CL mx) run lp (awq mx) ⟨bO v0 v1 T v5 O v7 S E J H G a0 M I L v76 F D B w o g,h⟩ κn κx) (cmp cD E (.int 9223372036854775807 6) h (fun a1 h=>bJ a1 (dX (placeOf (CL mx) [(0,64),(1,4),(2,22),(3,65)]) [.int 18446744073709551615 0,.bool false,.aa,.aa] [] h (fun a2 h=>aP (fun a3 h=>kc (CL mx) run lp (alE mx) ⟨bO v0 v1 T v5 O v7 S E J H G a0 a1 I L v76 F D B w o g,h⟩ (fun s=>kc (CL mx) run lp (alh mx) s κn κx) κx) (aH (CL mx) run 194 [v0,a2] h))) (cmp cD E (.int 9223372036854775807 7) h (fun a2 h=>bJ a2 (aF 265 v5 h (fun a3 h=>aP (fun a4 h=>κn ⟨bO v0 v1 T v5 O v7 S E J H G a0 a1 I a2 v76 F D B w o g,h⟩) (aH (CL mx) run 201 [v0,a3] h))) (cmp cD E (.int 9223372036854775807 8) h (fun a3 h=>bJ a3 (kc (CL mx) run lp (avL mx) ⟨bO v0 v1 T v5 O v7 S E J H G a0 a1 I a2 a3 F D B w o g,h⟩ (fun s=>kc (CL mx) run lp (avc mx) s κn κx) κx) (cmp cD E (.int 9223372036854775807 9) h (fun a4 h=>bJ a4 (dX (placeOf (CL mx) [(0,64),(1,4),(2,22),(3,65)]) [.int 18446744073709551615 0,.bool false,.aa,.aa] [] h (fun a5 h=>aP (fun a6 h=>kc (CL mx) run lp (afq mx) ⟨bO v0 v1 T v5 O v7 S E J H G a0 a1 I a2 a3 F a4 B w o g,h⟩ κn κx) (aH (CL mx) run 194 [v0,a5] h))) (cmp cD E (.int 9223372036854775807 17) h (fun a5 h=>bJ a5 (kc (CL mx) run lp (ar8 mx) ⟨bO v0 v1 T v5 O v7 S E J H G a0 a1 I a2 a3 F a4 a5 w o g,h⟩ κn κx) (cmp cD E (.int 9223372036854775807 18) h (fun a6 h=>bJ a6 (kc (CL mx) run lp (asu mx) ⟨bO v0 v1 T v5 O v7 S E J H G a0 a1 I a2 a3 F a4 a5 a6 o g,h⟩ κn κx) (cmp cD E (.int 9223372036854775807 19) h (fun a7 h=>bJ a7 (kc (CL mx) run lp (aqn mx) ⟨bO v0 v1 T v5 O v7 S E J H G a0 a1 I a2 a3 F a4 a5 a6 a7 g,h⟩ (fun s=>kc (CL mx) run lp (asP mx) s κn κx) κx) (aF 265 v5 h (fun a8 h=>aP (fun a9 h=>κx .ret ⟨bO v0 v1 a9 v5 O v7 S E J H G a0 a1 I a2 a3 F a4 a5 a6 a7 g,h⟩) (aH (CL mx) run 203 [v0,v1,a8] h))))))))))))))))))):=by kernel_rfl
theorem xh:kc (CL mx) run lp (alE mx) ⟨bO v0 v1 T v5 O v7 S E J H G N M I L v76 F D B w o g,h⟩ κn κx=kcR κn κx ((fun tt=>dr (sRd [] h (aW v0 h kVH) fun r0=>sRd [r0.v] r0.h' (aM r0.v r0.h' kVH) fun r1=>sRd [r1.v,r0.v] r1.h' (aj 10 r1.v r1.h' kVH) fun r2=>sRd [r2.v,r1.v,r0.v] r2.h' (ao r2.v r2.h' kVH) fun r3=>sRd [r3.v,r2.v,r1.v,r0.v] r3.h' (aW v0 r3.h' kVH) fun r4=>sRd [r4.v,r3.v,r2.v,r1.v,r0.v] r4.h' (aF 265 v5 r4.h' kVH) fun r5=>sEf [r5.v,r4.v,r3.v,r2.v,r1.v,r0.v] r5.h' (aP kVH (aH (CL mx) run 198 [r4.v,r5.v] r5.h')) fun r6=>sRd [r6.v,r5.v,r4.v,r3.v,r2.v,r1.v,r0.v] r6.h' (aW r3.v r6.h' kVH) fun r7=>sRd [r7.v,r6.v,r5.v,r4.v,r3.v,r2.v,r1.v,r0.v] r7.h' (aW r6.v r7.h' kVH) fun r8=>bq (and (aG r0 (OK.f (.mk (o1 aW (.tr 0))) (CL mx) run r0.σ tt (aN (ag r0.h) r6.h') kVH)) (and (aG r1 (OK.f (.mk (o1 aM (.st 0))) (CL mx) run r1.σ tt (aN (ag r1.h) r6.h') kVH)) (and (aG r2 (OK.f (.mk (o1 (aj 10) (.st 0))) (CL mx) run r2.σ tt (aN (ag r2.h) r6.h') kVH)) (and (aG r3 (OK.f (.mk (o1 ao (.st 0))) (CL mx) run r3.σ tt (aN (ag r3.h) r6.h') kVH)) (true))))) (some (.st (bO v0 v1 T v5 r7.v r8.v S E J H G N M I L v76 F D B w o g) r8.h')) none)) (bO v0 v1 T v5 O v7 S E J H G N M I L v76 F D B w o g)):=(eW (C:=CL mx) [1,1,0,1,0,1,1,1,1,1,1,1,1,1,0,1,0] 137 [0,1,4,5,6,7,8,18,23,28,32,38,50,63,71,76,84,107,124,138,152,185] (by kernel_rfl) _ _ _).trans (by kernel_rfl)
theorem xB:kc (CL mx) run lp (alh mx) ⟨bO v0 v1 T v5 O v7 S E J H G N M I L v76 F D B w o g,h⟩ κn κx=aP (fun a0 h=>bJ a0 (aP (fun a1 h=>dX (placeOf (CL mx) [(0,64),(1,4),(2,22),(3,65)]) [.int 18446744073709551615 0,.bool false,.aa,.aa] [(2,a1)] h (fun a2 h=>aP (fun a3 h=>κn ⟨bO v0 v1 T v5 O v7 S E J H G N M a0 L v76 F D B w o g,h⟩) (aH (CL mx) run 199 [v0,a2] h))) (aH (CL mx) run 200 [v0,v7,O] h)) (κn ⟨bO v0 v1 T v5 O v7 S E J H G N M a0 L v76 F D B w o g,h⟩)) (aH (CL mx) run 136 [v0] h):=by kernel_rfl
theorem adn:kc (CL mx) run lp (afq mx) ⟨bO v0 v1 T v5 O v7 S E J H G N M I L v76 F D B w o g,h⟩ κn κx=kcR κn κx ((fun tt=>dr (sRd [] h (aW v0 h kVH) fun r0=>sRd [r0.v] r0.h' (aW v0 r0.h' kVH) fun r1=>sRd [r1.v,r0.v] r1.h' (aM r1.v r1.h' kVH) fun r2=>sRd [r2.v,r1.v,r0.v] r2.h' (aj 18 r2.v r2.h' kVH) fun r3=>sRd [r3.v,r2.v,r1.v,r0.v] r3.h' (ao r3.v r3.h' kVH) fun r4=>sRd [r4.v,r3.v,r2.v,r1.v,r0.v] r4.h' (aW v0 r4.h' kVH) fun r5=>sRd [r5.v,r4.v,r3.v,r2.v,r1.v,r0.v] r5.h' (aF 265 v5 r5.h' kVH) fun r6=>sEf [r6.v,r5.v,r4.v,r3.v,r2.v,r1.v,r0.v] r6.h' (aP kVH (aH (CL mx) run 198 [r5.v,r6.v] r6.h')) fun r7=>sMk [r7.v,r6.v,r5.v,r4.v,r3.v,r2.v,r1.v,r0.v] r7.h' (fun h=>fA 1 1 [.int 18446744073709551615 0] [(0,r7.v)] h kVH) fun r8=>sEf [r8.v,r7.v,r6.v,r5.v,r4.v,r3.v,r2.v,r1.v,r0.v] r8.h' (gg 65 1 8 r4.v r8.v r8.h' kVH) fun r9=>sRd [r9.v,r8.v,r7.v,r6.v,r5.v,r4.v,r3.v,r2.v,r1.v,r0.v] r9.h' (aM r0.v r9.h' kVH) fun r10=>sRd [r10.v,r9.v,r8.v,r7.v,r6.v,r5.v,r4.v,r3.v,r2.v,r1.v,r0.v] r10.h' (aj 18 r10.v r10.h' kVH) fun r11=>sEf [r11.v,r10.v,r9.v,r8.v,r7.v,r6.v,r5.v,r4.v,r3.v,r2.v,r1.v,r0.v] r11.h' (bQ r11.v r9.v r11.h' kVH) fun r12=>bq (and (aG r0 (OK.f (.mk (o1 aW (.tr 0))) (CL mx) run r0.σ tt (aN (ag r0.h) r7.h') kVH)) (and (aG r1 (OK.f (.mk (o1 aW (.tr 0))) (CL mx) run r1.σ tt (aN (ag r1.h) r7.h') kVH)) (and (aG r2 (OK.f (.mk (o1 aM (.st 0))) (CL mx) run r2.σ tt (aN (ag r2.h) r7.h') kVH)) (and (aG r3 (OK.f (.mk (o1 (aj 18) (.st 0))) (CL mx) run r3.σ tt (aN (ag r3.h) r7.h') kVH)) (and (aG r4 (OK.f (.mk (o1 ao (.st 0))) (CL mx) run r4.σ tt (aN (ag r4.h) r7.h') kVH)) (and (aG r0 (OK.f (.mk (o1 aW (.tr 0))) (CL mx) run r0.σ tt (aN (ag r0.h) r9.h') kVH)) (true))))))) (some (.st tt r12.h')) none)) (bO v0 v1 T v5 O v7 S E J H G N M I L v76 F D B w o g)):=(eW (C:=CL mx) [1,1,0,1,0,1,1,1,1,1,1,1,1,1,1,1,1,1,1,1,0,1] 137 [0,1,4,5,6,7,8,18,23,28,32,38,50,63,71,76,84,107,124,138,152,185] (by kernel_rfl) _ _ _).trans (by kernel_rfl)
theorem pD:bc (bO v0 v1 T v5 O v7 S E J H G N M I L v76 F D B w o g) 0=v0:=(rfl)
theorem fP:kcE (CL mx) [.tmp 4] ⟨bO v0 v1 T v5 O v7 S E J H G N M I L v76 F D B w o g,h⟩=some (.vh T h):=(bW _ _ _).trans (by kernel_rfl)
theorem aq1:dz (CL mx) 137=some ⟨adB mx,[0,1,4,5,6,7,8,18,23,28,32,38,50,63,71,76,84,107,124,138,152,185],194,[.tmp 4]⟩:=by kernel_rfl
end
theorem apn (mx:Int) (run:Run) (lp:Lp) (x0 x1:AV) (h:AH):dk (CL mx) run lp 137 [x0,x1] h=vhO (kc (CL mx) run lp (adB mx) ⟨bO x0 x1 .bot .bot .bot .bot .bot .bot .bot .bot .bot .bot .bot .bot .bot .bot .bot .bot .bot .bot .bot .bot,h⟩ (kcE (CL mx) [.tmp 4]) (kcQ (CL mx) [.tmp 4])):=(bV (by kernel_rfl) (aq1 mx) (by kernel_rfl)).trans (by kernel_rfl)
end
section
variable {mx:Int} {m:Nat} {K:RC} {kd:Nat→Nat} {h:AH} {p:Nat} {c:PC} {s:PR}
def qm (m:Nat) (h:AH) (v:AV) (i:Nat) (q:PS):Prop:=∃P wv bs,(∀(k:Nat) (h':AH) (κ:Ka),bM 265 v (.int k (i:Int)) h' κ=κ P h')∧(∀(h':AH),(∀j,j<m→ab h' j=ab h j)→ ∀κ:Ka,aF 265 P h' κ=κ (.agg (stC q wv bs)) h')∧
 (stC q wv bs).length=265∧aO (stC q wv bs)=true∧RdR h (fun b=>b<m) 2 wv (q.ways.map wL)∧(q.kind=14→bs=aI q.bytes)
def PreK (s:PR):Prop:=∃u r,s.stack=u::r∧r.length≤90000∧ ∀n b d ks,u= .nd n b d ks→ks.length≤90000∧d=[]
def adp (q:PS) (s:PR):Prop:=(q.a<0∧q.add<18446744073709551616)∨(q.a<(s.slots.length:Int)∧q.mul=1∧q.add=0∧ ∀x∈s.slots,x<18446744073709551616)
inductive acG (c:PC) (q:PS) (s:PR):Prop
 |opn (k:q.kind=1)
 |cls (k:q.kind=2) (t u:PT) (r:List PT) (e:s.stack=t::u::r) (hl:r.length≤90000) (hk: ∀n b d ks,u= .nd n b d ks→ks.length≤90000∧d=[])
 |num (k:(q.kind=3∧1≤q.a∧q.a≤8)∨(q.kind=4∧False)) (hb:q.b<(s.slots.length:Int)) (hs:PreK s)
 |wo (k:q.kind=6) (hq:adp q s) (hs:PreK s)
 |count (k:q.kind=9) (hq:adp q s) (hl:s.counts.length≤100000)
 |jump (k:q.kind=11) (ha:0≤q.a)
 |next (k:q.kind=10) (ha:0≤q.a) (h0:s.counts≠[]) (hl:s.counts.length≤100000) (hn: ∀n∈s.counts,n<18446744073709551616)
 |call (k:q.kind=15) (ha:0≤q.a) (hl:s.calls.length≤100000)
 |ret (k:q.kind=16) (h0:s.calls≠[]) (hl:s.calls.length≤100000)
 |fin (k:q.kind=20)
 |choice (k:q.kind=14) (hb8: ∀x∈q.bytes,x<256) (hk: ∀x∈q.bytes,x≤q.ways.length) (hl:q.ways.length≤1000)
theorem acG.oG {q:PS} {wv:AV} {bs:List AV} (P:acG c q s) (hbb:q.kind=14→bs=aI q.bytes) (hw:RdR h (fun b=>b<m) 2 wv (q.ways.map wL)) (k1:q.kind≠1) (k2:q.kind≠2) (k3:q.kind≠3) (k4:q.kind≠4) (k6:q.kind≠6) (k9:q.kind≠9):PreT m h wv bs q s:=by
 cases P with
 |opn k=>exact absurd k k1
 |cls k=>exact absurd k k2
 |num k=>rcases k with k|k
         ·exact absurd k.1 k3
         ·exact absurd k.1 k4
 |wo k=>exact absurd k k6
 |count k=>exact absurd k k9
 |jump k ha=>exact .inl ⟨k,ha⟩
 |next k ha h0 hl hn=>exact .inr (.inl ⟨k,ha,h0,hl,hn⟩)
 |call k ha hl=>exact .inr (.inr (.inr (.inr (.inl ⟨k,ha,hl⟩))))
 |ret k h0 hl=>exact .inr (.inr (.inr (.inr (.inr (.inl ⟨k,h0,hl⟩)))))
 |fin k=>exact .inr (.inr (.inr (.inr (.inr (.inr (.inl k))))))
 |choice k hb8 hk hl=>exact .inr (.inr (.inr (.inr (.inr (.inr (.inr ⟨k,hbb k,hw,hb8,hk,hl⟩))))))
theorem pG {σ:List AV} {h:AH} {q:AH→Option Rs} {k:Tr→Option Rs} {v:Nat→AV} {b:Option Blk} (hq: ∀h:AH,q h=some (.vh (v h.length) (h++[b]))):sMk σ h q k=k ⟨σ,h,v h.length,h++[b]⟩:=by
 have e:q (aU (ag h) none)=some (.vh (v h.length) (List.replicate h.length none++[b])):=by
  rw [hq,gL,ah,CA]
 unfold sMk;rw [e];show au (bq (and (Nat.ble (ag h) (ag (List.replicate h.length none++[b]))) (Nat.ble (ag (List.replicate h.length none++[b])) (Nat.succ (ag h)))) (some ⟨σ,h,v h.length,av h (cL (ag h) (List.replicate h.length none++[b]))⟩) none) k=_;have l1:ag (List.replicate h.length none++[b])=h.length+1:=by rw [ah];simp
 rw [l1,ah,cq,cq,decide_eq_true (show h.length≤h.length+1 by omega),decide_eq_true (show h.length+1≤Nat.succ h.length from A9 _),aV,bt]
 have:(List.replicate h.length (none:Option Blk)++[b]).drop h.length=[b]:=by
  rw [CF (by simp),CP (by simp)];rfl
 rw [this];rfl
theorem arX (σ:List AV) (h:AH) (z:AV) (n:Nat) (a:Int) (k:Tr→Option Rs):sMk σ h (fun h=>fA 1 1 [z] [(0,.int n a)] h kVH) k=k ⟨σ,h,.slo h.length 0 1 1 1 true,h++[some (.cells [.int n a] 0)]⟩:=pG (v:=fun m=>.slo m 0 1 1 1 true) fun h=>by rw [ame];rfl
theorem Nx.le {n n':Nat} {h':AH} (nx:Nx n m K kd h p c s h') (hn:n'≤n):Nx n' m K kd h p c s h':=by
 obtain ⟨kd',R',l',f'⟩:=nx;exact ⟨kd',R',l',fun i hi=>f' i (by omega)⟩
theorem ag6 (R:RS m K kd h p c s) (W:Wf c s) (W1:Wf c (s.open_ c)) {q:PS} {i:Nat} (hi:i≤1000000) (A:qm m h K.p0 i q) (P:acG c q s) (f:Nat):
 aL (fun x h'=>x= .int 9223372036854775807 (stI (s.step c q i).1)∧Nx h.length m K kd h p c (s.step c q i).2 h') ((rl (CL mx) (f+q.ways.length+100)).run 137 [.pto p 0,.int 9223372036854775807 (i:Int)] h):=by
 obtain ⟨Pt,wv,bs,ix,lG',hbs,hpl,hw,hbb⟩:=A;refine aL.runs (n:=f+q.ways.length+99) (apn mx _ _ _ _ _) ?_;obtain ⟨stp0,y0,sl0,st0,ct0,cl0,QQ0,hp00,_⟩:=R.ex;unfold rdL at hp00;have lG:=fun κ=>lG' h (fun _ _=>rfl) κ
 have sto: ∀κ:Ka,ay 265 (.pto h.length 0) (.agg (stC q wv bs)) (h++[some (.cells x8 (349+1))]) κ=κ (.tup []) (h++[some (.cells (stC q wv bs) (349+1))]):=fun κ=>bD (by kernel_rfl) hbs hpl
 have hz:=aD h (some (Blk.cells (stC q wv bs) (349+1)));have R0:=R.grow (h':=h++[some (Blk.cells (stC q wv bs) (349+1))]) (by simp) (fun i hi=>ak hi _);have fz: ∀i,i<h.length→ab (h++[some (Blk.cells (stC q wv bs) (349+1))]) i=ab h i:=fun i hi=>ak hi _
 have hl0:(h++[some (Blk.cells (stC q wv bs) (349+1))]).length=h.length+1:=by simp
 have k0:dF kd h.length 0 h.length=0:=iY (A9 _);have gl:decide (265≤(stC q wv bs).length)=true:=by rw [hbs];rfl
 have tk:List.take 265 (stC q wv bs)=stC q wv bs:=by rw [←hbs,Cc]
 have f0:h.length≤(h++[some (Blk.cells (stC q wv bs) (349+1))]).length∧ ∀i,i<h.length→kd i=0→ab (h++[some (Blk.cells (stC q wv bs) (349+1))]) i=ab h i∧dF kd h.length 0 i=0:=⟨by omega,fun i hi h0=>⟨fz i hi,by rw [cF hi];exact h0⟩⟩
 have w1:aQ 9223372036854775807 ((i:Int)+1)=((i+1:Nat):Int):=by rw [bp (by omega) (by omega)];simp
 have hw0:RdR (h++[some (Blk.cells (stC q wv bs) (349+1))]) (fun b=>b<m) 2 wv (q.ways.map wL):=hw.mono fun b hb hs=>⟨hs,fz b hb⟩
 simp only [sy,A7,seval,ail,hp00,ix,lG,eB,sto]
 generalize h++[some (Blk.cells (stC q wv bs) (349+1))]=h0 at*
 have fin: ∀{s':PR} {h':AH},Nx h0.length m K (dF kd h.length 0) h0 p c s' h'→Nx h.length m K kd h p c s' h':=fun nx=>by
  obtain ⟨kd',R',l',f'⟩:=nx;exact ⟨kd',R',by omega,fun i hi hi0=>⟨(f' i (by omega) (f0.2 i hi hi0).2).1.trans (fz i hi),(f' i (by omega) (f0.2 i hi hi0).2).2⟩⟩
 by_cases k1:q.kind=1
 ·have k':(q.kind:Int)=1:=by omega
  have e:s.step c q i=(some (i+1),s.open_ c):=by unfold PR.step;simp [k1]
  rw [e];simp only [sy,A7,seval,gA,hz,iL,k',decide_true];refine wEq (cZ (cs:=[.int 18446744073709551615 0,.bool false,.aa,.aa]) (by kernel_rfl)) ?_;refine cy (kF R0 W (f+q.ways.length+97)).call ?_;rintro x h1 ⟨rfl,nx⟩;simp only [sy,A7,seval,fG,w1,fP];exact Ends.mk ⟨rfl,fin nx⟩
 by_cases k2:q.kind=2
 ·have k':(q.kind:Int)=2:=by omega
  have e:s.step c q i=(some (i+1),s.close):=by unfold PR.step;simp [k2]
  rw [e]
  cases P with
  |cls k t u r e' hl hk=>
   simp only [sy,A7,seval,gA,hz,iL,k',Int.reduceEq,decide_true,decide_false];refine cy (uI R0 e' hl hk (f+q.ways.length+98)).call ?_;rintro x h1 ⟨rfl,nx⟩;simp only [sy,A7,seval,fG,w1,fP];exact Ends.mk ⟨rfl,fin nx⟩
  |num k=>rcases k with k|k<;>omega
  |_=>omega
 by_cases k3:q.kind=3∨q.kind=4
 ·have e:s.step c q i=(some (i+1),s.number c q):=by unfold PR.step;simp [k1,k2,k3]
  rw [e]
  cases P with
  |num k hb hs=>
   obtain ⟨u,r,e',hl,hk⟩:=hs;have ng:=aiZ (mx:=mx) R0 W W1 hbs hpl k hb e' hl hk (f+q.ways.length+59);rcases k with ⟨k,_⟩|⟨k,_⟩
   ·have k':(q.kind:Int)=3:=by omega
    simp only [sy,A7,seval,gA,kj,kV,hz,iL,k',Int.reduceEq,decide_true,decide_false,gl,tk];refine cy ng.call ?_;rintro x h1 ⟨rfl,nx⟩;simp only [sy,A7,seval,fG,w1,fP];exact Ends.mk ⟨rfl,fin nx⟩
   ·have k':(q.kind:Int)=4:=by omega
    simp only [sy,A7,seval,gA,kj,kV,hz,iL,k',Int.reduceEq,decide_true,decide_false,gl,tk];refine cy ng.call ?_;rintro x h1 ⟨rfl,nx⟩;simp only [sy,A7,seval,fG,w1,fP];exact Ends.mk ⟨rfl,fin nx⟩
  |_=>omega
 by_cases k6:q.kind=6
 ·have k':(q.kind:Int)=6:=by omega
  have e:s.step c q i=(some (i+1),s.wo c q):=by unfold PR.step;simp [k6]
  rw [e];simp only [sy,A7,seval,gA,kj,kV,hz,iL,k',Int.reduceEq,decide_true,decide_false];refine wEq (cZ (cs:=[.int 18446744073709551615 0,.bool false,.aa,.aa]) (by kernel_rfl)) ?_;refine cy (kF R0 W (f+q.ways.length+97)).call ?_;rintro x h1 ⟨rfl,kd1,R1,l1,f1⟩;have e1:=f1 h.length (by omega) k0;have hz1:=e1.1.trans hz;have hsl1:=pc c s;have hst1:=oW c s
  cases P with
  |wo k hq hs=>
   obtain ⟨u,r,e',hl,hk⟩:=hs;rw [e'] at hst1;have fin1: ∀{s':PR} {h':AH},Nx h.length m K kd1 h1 p c s' h'→Nx h.length m K kd h p c s' h':=fun nx=>by
    obtain ⟨kd',R',l',f'⟩:=nx;refine ⟨kd',R',by omega,fun i hi hi0=>?_⟩;have a:=f1 i (by omega) (f0.2 i hi hi0).2;exact ⟨(f' i hi a.2).1.trans (a.1.trans (fz i hi)),(f' i hi a.2).2⟩
   have hbl:s.wo c q=if (s.open_ c).code≠0 then s.open_ c else ((s.open_ c).take c ((s.open_ c).many q) (s.open_ c).at_).2.leaf (.nd 0 false ((s.open_ c).take c ((s.open_ c).many q) (s.open_ c).at_).1 []):=rfl
   rw [hbl]
   generalize s.open_ c=s1 at*
   have hm:s1.many q≤18446744073709551615:=by
    unfold PR.many;rcases hq with ⟨h1,h2⟩|⟨h1,h2,h3,h4⟩
    ·rw [if_pos h1];omega
    ·by_cases ha:q.a<0
     ·rw [if_pos ha];omega
     ·rw [if_neg ha,hsl1]
      have:s.slots.getD q.a.toNat 0=s.slots[q.a.toNat]'(by omega):=by
       rw [Bf,Bd (by omega)];rfl
      rw [this]
      have:=h4 _ (CE (l:=s.slots) (n:=q.a.toNat) (by omega))
      omega
   obtain ⟨x,h2,el,ex,l2,f2⟩:=aL.call (C:=CL mx) (yu (mx:=mx) R1 hbs hpl (by rw [hsl1];rcases hq with ⟨h1,_⟩|h1;exact .inl h1;exact .inr h1) (f+q.ways.length+95))
   rw [ex] at el;have R2:=R1.grow l2 f2;obtain ⟨stp1,y1,sl1,st1,ct1,cl1,QQ1,hp1,_⟩:=R1.ex;unfold rdL at hp1;have hpl1:=aJ hp1;have gf:ab (aN (ag h1) h2) p=ab h1 p:=by rw [qW (by omega) (by rw [ah];exact hpl1)];exact f2 p hpl1
   rw [hp1] at gf;have ltp: ∀j,AV.lt (ag h1) (.pto p j)=true:=fun j=>by rw [fE,ah,decide_eq_true_iff];exact hpl1
   have lti: ∀(k:Nat) (x:Int),AV.lt (ag h1) (.int k x)=true:=fun k x=>rfl
   have gll:decide (h1.length≤h2.length)=true:=decide_eq_true l2;have okc:=gd (mx:=mx) R2 (f+q.ways.length+98)
   by_cases hc:s1.code≠0
   ·rw [if_pos hc]
    simp only [sy,A7,seval,xh,xB,jx,lj,jZ,hp1,n64,hz1,iL,gl,tk,el,nj,o1,sH,sG,pF,pf,pD,ep,gf,eM,ltp,lti,gll,CY,ja,okc,decide_eq_false hc,fG,w1,fP];exact Ends.mk ⟨rfl,fin1 ⟨_,R2,l2,fun i hi hi0=>⟨f2 i (by omega),by rw [cF (by omega)];exact hi0⟩⟩⟩
   ·rw [if_neg hc]
    have hc':s1.code=0:=by omega
    simp only [sy,A7,seval,xh,xB,jx,lj,jZ,hp1,n64,hz1,iL,gl,tk,el,nj,o1,sH,sG,pF,pf,pD,ep,gf,eM,ltp,lti,gll,CY,ja,okc,decide_eq_true hc'];refine cy (rY R2 W1 (n:=s1.many q) (a:=s1.at_) hm W1.at_ (f+q.ways.length+97)).call ?_;rintro dv h3 ⟨kd3,b0,hd,R3,l3,f3,hb0,hbl⟩;have tk3:=uQ c s1 (s1.many q) s1.at_;have hml:=R.ml;have hdv:dv= .aa∨ ∃b l e,dv= .slo b 0 l l 1 e:=by
     rcases hd with ⟨_,rfl⟩|⟨_,b,e,y,rfl,_,_⟩
     ·exact .inl rfl
     ·exact .inr ⟨_,_,_,rfl⟩
    rcases hdv with rfl|⟨b,l,e,rfl⟩
    ·refine wEq (cZ (cs:=[.int 18446744073709551615 ((0:Nat):Int),.bool false,.aa,.aa]) (by kernel_rfl)) ?_
     refine cy (rU R3 (tk3.2.1.trans hst1) hl hk (nn:=0) (b0:=b0) (n0:=h.length) hd hb0 hml (by omega) (by omega) (f+q.ways.length+97)).call ?_;rintro x h4 ⟨rfl,nx⟩;simp only [sy,A7,seval,fG,w1,fP];refine Ends.mk ⟨rfl,fin1 (Nx.pre ⟨by omega,fun i hi hi0=>?_⟩ nx)⟩;have a:=f3 i (by omega) (by rw [cF (by omega)];exact hi0);exact ⟨a.1.trans (f2 i (by omega)),a.2⟩
    ·refine wEq (cZ (cs:=[.int 18446744073709551615 ((0:Nat):Int),.bool false,.slo b 0 l l 1 e,.aa]) (by kernel_rfl)) ?_
     refine cy (rU R3 (tk3.2.1.trans hst1) hl hk (nn:=0) (b0:=b0) (n0:=h.length) hd hb0 hml (by omega) (by omega) (f+q.ways.length+97)).call ?_;rintro x h4 ⟨rfl,nx⟩;simp only [sy,A7,seval,fG,w1,fP];refine Ends.mk ⟨rfl,fin1 (Nx.pre ⟨by omega,fun i hi hi0=>?_⟩ nx)⟩;have a:=f3 i (by omega) (by rw [cF (by omega)];exact hi0);exact ⟨a.1.trans (f2 i (by omega)),a.2⟩
  |num k=>rcases k with k|k<;>omega
  |_=>omega
 by_cases k9:q.kind=9
 ·have k':(q.kind:Int)=9:=by omega
  have e:s.step c q i=(some (i+1),{s.open_ c with counts:=s.many q::s.counts}):=by unfold PR.step;simp [k9]
  rw [e];simp only [sy,A7,seval,gA,kj,kV,hz,iL,k',Int.reduceEq,decide_true,decide_false];refine wEq (cZ (cs:=[.int 18446744073709551615 0,.bool false,.aa,.aa]) (by kernel_rfl)) ?_;refine cy (kF R0 W (f+q.ways.length+97)).call ?_;rintro x h1 ⟨rfl,kd1,R1,l1,f1⟩;have e1:=f1 h.length (by omega) k0;have hz1:=e1.1.trans hz;have hsl1:=pc c s;have hct1:=ab1 c s
  cases P with
  |count k hq hl=>
   have fin1: ∀{s':PR} {h':AH},Nx h.length m K kd1 h1 p c s' h'→Nx h.length m K kd h p c s' h':=fun nx=>by
    obtain ⟨kd',R',l',f'⟩:=nx;refine ⟨kd',R',by omega,fun i hi hi0=>?_⟩;have a:=f1 i (by omega) (f0.2 i hi hi0).2;exact ⟨(f' i hi a.2).1.trans (a.1.trans (fz i hi)),(f' i hi a.2).2⟩
   have hmm:s.many q=(s.open_ c).many q:=by unfold PR.many;rw [hsl1]
   rw [hmm,←hct1];rw [←hct1] at hl;clear hmm
   generalize s.open_ c=s1 at*
   obtain ⟨x,h2,el,ex,l2,f2⟩:=aL.call (C:=CL mx) (yu (mx:=mx) R1 hbs hpl (by rw [hsl1];rcases hq with ⟨h1,_⟩|h1;exact .inl h1;exact .inr h1) (f+q.ways.length+95))
   rw [ex] at el;have R2:=R1.grow l2 f2;obtain ⟨stp1,y1,sl1,st1,ct1,cl1,QQ1,hp1,p2,p3,pk,p4,p5⟩:=R1.ex;have hp1':=hp1;unfold rdL at hp1;have hpl1:=aJ hp1;obtain ⟨v',h3,a1,a2,a3,a4⟩:=agw (h:=h2) (kd:=dF kd1 h1.length 0) (j:=4) (v:=ct1) (x:=U64 (s1.many q)) (p4.mono fun b hb hs=>⟨by rw [cF hb];exact hs,f2 b hb⟩) rfl (by simpa using hl) (64+1) (by_:=8) (by decide);rw [show U64 (s1.many q)= .int 18446744073709551615 ((s1.many q:Nat):Int) from rfl] at a1;have gf:ab (aN (ag h1) h2) p=ab h1 p:=by rw [qW (by omega) (by rw [ah];exact hpl1)];exact f2 p hpl1
   rw [hp1] at gf;have ltp: ∀j,AV.lt (ag h1) (.pto p j)=true:=fun j=>by rw [fE,ah,decide_eq_true_iff];exact hpl1
   have lti: ∀(k:Nat) (x:Int),AV.lt (ag h1) (.int k x)=true:=fun k x=>rfl
   have gll:decide (h1.length≤h2.length)=true:=decide_eq_true l2;have gl3:decide (h2.length+1≤h3.length)=true:=decide_eq_true a3;have hp3:ab h3 p=some (.cells (rdL K c s1 stp1 sl1 st1 ct1 cl1) y1):=by rw [a4 p (by rw [cF hpl1,R1.kp];decide) (by omega),f2 p hpl1];exact hp1'
   have hp3':=hp3;unfold rdL at hp3';have ctl:AV.lt (ag h1) ct1=true:=p4.vlt;have pl:v'.plain=true:=a2.plain;simp only [sy,A7,seval,adn,jx,lj,jZ,hp1,n64,hz1,iL,gl,tk,el,nj,o1,sH,sG,pF,pf,pD,ep,gf,eM,ltp,lti,gll,arX,a1,gl3,hp3',pl,ctl,CY,ja];simp only [sy,A7,seval,fG,w1,fP]
   let kd2:Nat→Nat:=fun i=>if i<h2.length then dF kd1 h1.length 0 i else if i=h2.length+1 then 4 else 0
   have k2l: ∀i,i<h1.length→kd2 i=kd1 i:=fun i hi=>by show (if i<h2.length then dF kd1 h1.length 0 i else _)=_;rw [if_pos (by omega),cF hi]
   have k2n:kd2 (h2.length+1)=4:=by show (if h2.length+1<h2.length then _ else if h2.length+1=h2.length+1 then 4 else 0)=4;rw [if_neg (by omega),if_pos rfl]
   have fr: ∀i,i<h1.length→kd1 i≠4→i≠p→ ∀Y,ab (h3.set p Y) i=ab h1 i:=fun i hi h4 hip Y=>by rw [ae (Ne.symm hip),a4 i (by rw [cF hi];exact h4) (by omega),f2 i hi]
   have mm: ∀{j:Nat} {Y:Option Blk},j≠1→j≠4→ ∀b',b'<h1.length→kd1 b'=j→kd2 b'=j∧ab (h3.set p Y) b'=ab h1 b':=fun h1' h4' b' hb' e=>⟨by rw [k2l _ hb'];exact e,fr b' hb' (by rw [e];exact h4') (fun cc=>h1' (by rw [←e,cc];exact R1.kp)) _⟩
   have hml:=R1.ml;refine Ends.mk ⟨rfl,fin1 ⟨kd2,R1.make (s':={s1 with counts:=s1.many q::s1.counts}) (stp':=stp1) (y':=y1) (sl:=sl1) (st:=st1) (ct:=v') (cl:=cl1) (Q:=QQ1) (by rw [k2l p hpl1];exact R1.kp) (fun i hi=>⟨by rw [k2l i (by omega)];exact R1.lo i hi,fr i (by omega) (by rw [R1.lo i hi];decide) (Ne.symm (R1.iV (R1.lo i hi))) _⟩) (by rw [Bb];omega) (aq (by omega) _) (p2.mono (mm (by decide) (by decide))) (p3.mono (mm (by decide) (by decide))) (pk.mono fun b' hb' h1 _=>⟨k2l b' hb',fr b' hb' (by omega) (fun cc=>by rw [cc,R1.kp] at h1;omega) _⟩) ?_ (p5.mono (mm (by decide) (by decide))),by rw [Bb];omega,fun i hi h0'=>⟨fr i (by omega) (by rw [h0'];decide) (Ne.symm (R1.iV h0')) _,by rw [k2l i (by omega)];exact h0'⟩⟩⟩;have hmp:(List.map (fun n=>[U64 n]) s1.counts.reverse++[[U64 (s1.many q)]])=List.map (fun n=>[U64 n]) (s1.many q::s1.counts).reverse:=by simp
   rw [hmp] at a2;refine a2.mono fun b' hb' hs'=>?_
   rcases hs' with ⟨hs',hlt⟩|rfl
   ·exact ⟨by show (if b'<h2.length then dF kd1 h1.length 0 b' else _)=4;rw [if_pos hlt];exact hs',ae (fun cc=>by rw [←cc,cF hpl1,R1.kp] at hs';cases hs') _⟩
   ·exact ⟨k2n,ae (by omega) _⟩
  |num k=>rcases k with k|k<;>omega
  |_=>omega
 ·have tg:=ahX (mx:=mx) R0 W W1 hbs hpl (P.oG hbb hw0 k1 k2 (fun c=>k3 (.inl c)) (fun c=>k3 (.inr c)) k6 k9) hi (f+79)
  rw [show f+79+q.ways.length+20=f+q.ways.length+99 by omega] at tg;have hkk:q.kind=10∨q.kind=11∨q.kind=12∨q.kind=13∨q.kind=14∨q.kind=15∨q.kind=16∨q.kind=20:=by
   cases P with
   |num k=>rcases k with k|k<;>omega
   |_=>omega
  have d1:decide ((q.kind:Int)=1)=false:=by rw [decide_eq_false_iff_not];omega
  have d2:decide ((q.kind:Int)=2)=false:=by rw [decide_eq_false_iff_not];omega
  have d3:decide ((q.kind:Int)=3)=false:=by rw [decide_eq_false_iff_not];omega
  have d4:decide ((q.kind:Int)=4)=false:=by rw [decide_eq_false_iff_not];omega
  have d5:decide ((q.kind:Int)=5)=false:=by rw [decide_eq_false_iff_not];omega
  have d6:decide ((q.kind:Int)=6)=false:=by rw [decide_eq_false_iff_not];omega
  have d7:decide ((q.kind:Int)=7)=false:=by rw [decide_eq_false_iff_not];omega
  have d8:decide ((q.kind:Int)=8)=false:=by rw [decide_eq_false_iff_not];omega
  have d9:decide ((q.kind:Int)=9)=false:=by rw [decide_eq_false_iff_not];omega
  have d17:decide ((q.kind:Int)=17)=false:=by rw [decide_eq_false_iff_not];omega
  have d18:decide ((q.kind:Int)=18)=false:=by rw [decide_eq_false_iff_not];omega
  have d19:decide ((q.kind:Int)=19)=false:=by rw [decide_eq_false_iff_not];omega
  simp only [sy,A7,seval,gA,kj,kV,hz,iL,d1,d2,d3,d4,d5,d6,d7,d8,d9,d17,d18,d19,gl,tk];refine cy tg.call ?_;rintro x h' ⟨rfl,nx⟩;simp only [sy,A7,seval,fP];exact Ends.mk ⟨rfl,fin nx⟩
end
noncomputable section
def bm (v0 v1 v2 v5 d v7 l v9 v10 v11 v46 v67 v76:AV):Tm:=(.nd 8 (.nd 5 (.nd 1 (.lf 0 v0) (.nd 2 (.lf 1 v1) (.lf 2 v2))) (.nd 6 (.lf 5 v5) (.nd 7 (.lf 6 d) (.lf 7 v7)))) (.nd 11 (.nd 9 (.lf 8 l) (.nd 10 (.lf 9 v9) (.lf 10 v10))) (.nd 67 (.nd 46 (.lf 11 v11) (.lf 46 v46)) (.nd 76 (.lf 67 v67) (.lf 76 v76)))))
def ac5 (mx:Int):K:=kAt [] (kOf (CL mx) 89)
def aph (mx:Int):K:=kAt [1,1,0] (kOf (CL mx) 89)
def ann (mx:Int):K:=kAt [1,1,1] (kOf (CL mx) 89)
def aog (mx:Int):K:=kAt [1,1,1,0] (kOf (CL mx) 89)
def aer (mx:Int):K:=kAt [1,1,1,1] (kOf (CL mx) 89)
def vJ (mx:Int):K:=kAt [1,1,1,0,1,0,0] (kOf (CL mx) 89)
def ak6 (mx:Int):K:=kAt [1,1,1,1,0] (kOf (CL mx) 89)
def acp (mx:Int):K:=kAt [1,1,1,1,1] (kOf (CL mx) 89)
def ak8 (mx:Int):K:=kAt [1,1,1,1,1,0] (kOf (CL mx) 89)
def alV (mx:Int):K:=kAt [1,1,1,1,1,1] (kOf (CL mx) 89)
def agA (mx:Int):K:=kAt [1,1,1,1,1,0,1,0,0] (kOf (CL mx) 89)
def aeQ (mx:Int):K:=kAt [1,1,1,1,1,0,1,0,1] (kOf (CL mx) 89)
def af7 (mx:Int):K:=kAt [1,1,1,1,1,1,0] (kOf (CL mx) 89)
def agD (mx:Int):K:=kAt [1,1,1,1,1,1,1] (kOf (CL mx) 89)
def xX:List AV:=[.int 4294967295 0,.int 2147483647 0,.int 4294967295 0,.int 4294967295 0,.int 4294967295 0,.int 4294967295 0,.int 4294967295 0,.int 4294967295 0,.int 4294967295 0,.int 4294967295 0,.int 4294967295 0,.int 4294967295 0,.int 4294967295 0,.int 4294967295 0,.int 4294967295 0,.int 4294967295 0,.int 4294967295 0,.int 4294967295 0,.int 4294967295 0,.int 4294967295 0,.int 4294967295 0,.int 4294967295 0,.int 4294967295 0,.int 4294967295 0,.int 4294967295 0,.int 4294967295 0,.int 4294967295 0,.int 4294967295 0,.int 4294967295 0,.int 4294967295 0,.int 4294967295 0,.int 4294967295 0,.int 4294967295 0,.int 4294967295 0,.int 4294967295 0,.int 4294967295 0,.int 4294967295 0,.int 4294967295 0,.int 4294967295 0,.int 4294967295 0,.int 4294967295 0,.int 4294967295 0,.int 4294967295 0,.int 4294967295 0,.int 4294967295 0,.int 4294967295 0,.int 4294967295 0,.int 4294967295 0,.int 4294967295 0,.int 4294967295 0,.int 4294967295 0,.int 4294967295 0,.int 4294967295 0,.int 4294967295 0,.int 4294967295 0,.int 4294967295 0,.int 4294967295 0,.int 4294967295 0,.int 4294967295 0,.int 4294967295 0,.int 4294967295 0,.int 4294967295 0,.int 4294967295 0,.int 4294967295 0,.int 4294967295 0,.int 4294967295 0,.int 4294967295 0,.int 4294967295 0,.int 4294967295 0,.int 4294967295 0,.int 4294967295 0,.int 4294967295 0,.int 4294967295 0,.int 4294967295 0,.int 4294967295 0,.int 4294967295 0,.int 4294967295 0,.int 4294967295 0,.int 4294967295 0,.int 4294967295 0,.int 4294967295 0,.int 4294967295 0,.int 4294967295 0,.int 4294967295 0,.int 4294967295 0,.int 4294967295 0,.int 4294967295 0,.int 4294967295 0,.int 4294967295 0,.int 4294967295 0,.int 4294967295 0,.int 4294967295 0,.int 4294967295 0,.int 4294967295 0,.int 4294967295 0,.int 4294967295 0,.int 4294967295 0,.int 4294967295 0,.int 4294967295 0,.int 4294967295 0,.int 4294967295 0,.int 4294967295 0,.int 4294967295 0,.int 4294967295 0,.int 4294967295 0,.int 4294967295 0,.int 4294967295 0,.int 4294967295 0,.int 4294967295 0,.int 4294967295 0,.int 4294967295 0,.int 4294967295 0,.int 4294967295 0,.int 4294967295 0,.int 4294967295 0,.int 4294967295 0,.int 4294967295 0,.int 4294967295 0,.int 4294967295 0,.int 4294967295 0,.int 4294967295 0,.int 4294967295 0,.int 4294967295 0,.int 4294967295 0,.int 4294967295 0,.int 4294967295 0,.int 4294967295 0,.int 4294967295 0,.int 4294967295 0,.int 4294967295 0,.int 4294967295 0,.int 4294967295 0,.int 4294967295 0,.int 4294967295 0,.int 4294967295 0,.int 4294967295 0,.int 4294967295 0,.int 4294967295 0,.int 4294967295 0,.int 4294967295 0,.int 4294967295 0,.int 4294967295 0,.int 4294967295 0,.int 4294967295 0,.int 4294967295 0,.int 4294967295 0,.int 4294967295 0,.int 4294967295 0,.int 4294967295 0,.int 4294967295 0,.int 4294967295 0,.int 4294967295 0,.int 4294967295 0,.int 4294967295 0,.int 4294967295 0,.int 4294967295 0,.int 4294967295 0,.int 4294967295 0,.int 4294967295 0,.int 4294967295 0,.int 4294967295 0,.int 4294967295 0,.int 4294967295 0,.int 4294967295 0,.int 4294967295 0,.int 4294967295 0,.int 4294967295 0,.int 4294967295 0,.int 4294967295 0,.int 4294967295 0,.int 4294967295 0,.int 4294967295 0,.int 4294967295 0,.int 4294967295 0,.int 4294967295 0,.int 4294967295 0,.int 4294967295 0,.int 4294967295 0,.int 4294967295 0,.int 4294967295 0,.int 4294967295 0,.int 4294967295 0,.int 4294967295 0,.int 4294967295 0,.int 4294967295 0,.int 4294967295 0,.int 4294967295 0,.int 4294967295 0,.int 4294967295 0,.int 4294967295 0,.int 4294967295 0,.int 4294967295 0,.int 4294967295 0,.int 4294967295 0,.int 4294967295 0,.int 4294967295 0,.int 4294967295 0,.int 4294967295 0,.int 4294967295 0,.int 4294967295 0,.int 4294967295 0,.int 4294967295 0,.int 4294967295 0,.int 4294967295 0,.int 4294967295 0,.int 4294967295 0,.int 4294967295 0,.int 4294967295 0,.int 4294967295 0,.int 4294967295 0,.int 4294967295 0,.int 4294967295 0,.int 4294967295 0,.int 4294967295 0,.int 4294967295 0,.int 4294967295 0,.int 4294967295 0,.int 4294967295 0,.int 4294967295 0,.int 4294967295 0,.int 4294967295 0,.int 4294967295 0,.int 4294967295 0,.int 4294967295 0,.int 4294967295 0,.int 4294967295 0,.int 4294967295 0,.int 4294967295 0,.int 4294967295 0,.int 4294967295 0,.int 4294967295 0,.int 4294967295 0,.int 4294967295 0,.int 4294967295 0,.int 4294967295 0,.int 4294967295 0,.int 4294967295 0,.int 4294967295 0,.int 4294967295 0,.int 4294967295 0,.int 4294967295 0,.int 4294967295 0,.int 4294967295 0,.int 4294967295 0,.int 4294967295 0,.int 4294967295 0,.int 4294967295 0,.int 4294967295 0,.int 4294967295 0,.int 4294967295 0,.int 4294967295 0,.int 4294967295 0,.int 4294967295 0,.int 4294967295 0,.int 4294967295 0,.int 4294967295 0,.int 4294967295 0,.int 4294967295 0,.int 4294967295 0,.int 2147483647 0,.int 18446744073709551615 0]
section
set_option maxRecDepth 100000
variable (mx:Int) (run:Run) (lp:Lp) (κn:Kt) (κx:Ex→Kt) (h:AH) (v0 v1 v2 v5 d v7 l v9 v10 v11 v46 v67 v76:AV)
theorem aiW:kc (CL mx) run lp (ac5 mx) ⟨bm v0 v1 v2 v5 d v7 l v9 v10 v11 v46 v67 v76,h⟩ κn κx=fQ 39 v2 h (fun a0 h=>cU h (.cells [.int 18446744073709551615 0,.bool false,.aa,.aa] 68) (fun a1 h=>cU h (.cells [.int 9223372036854775807 0,.int 9223372036854775807 0] 33) (fun a2 h=>aM v0 h (fun a3 h=>aj 0 a3 h (fun a4 h=>aF 4 a4 h (fun a5 h=>cU h (.cells [.aa,.int 9223372036854775807 0,.int 9223372036854775807 0,.int 9223372036854775807 0] 281) (fun a6 h=>ay 4 a6 a5 h (fun a7 h=>kc (CL mx) run lp (aph mx) ⟨bm v0 v1 v2 a0 a1 (.int 9223372036854775807 0) a2 a6 v10 v11 v46 v67 v76,h⟩ (fun s=>kc (CL mx) run lp (ann mx) s κn κx) κx)))))))):=by kernel_rfl
theorem aib:kc (CL mx) run lp (aph mx) ⟨bm v0 v1 v2 v5 d v7 l v9 v10 v11 v46 v67 v76,h⟩ κn κx=kcR κn κx (dr (sRd [] h (aF 4 v9 h kVH) fun r0=>sRd [r0.v] r0.h' (aW v0 r0.h' kVH) fun r1=>sRd [r1.v,r0.v] r1.h' (aM r1.v r1.h' kVH) fun r2=>sRd [r2.v,r1.v,r0.v] r2.h' (aj 4 r2.v r2.h' kVH) fun r3=>sRd [r3.v,r2.v,r1.v,r0.v] r3.h' (ao r3.v r3.h' kVH) fun r4=>sMk [r4.v,r3.v,r2.v,r1.v,r0.v] r4.h' (fun h=>cU h (.cells xX 117) kVH) fun r5=>sRd [r5.v,r4.v,r3.v,r2.v,r1.v,r0.v] r5.h' (aW v1 (dt (dy [r0,r1,r2,r3,r4,r5] [5]) r5.h') kVH) fun r6=>sRd [r6.v,r5.v,r4.v,r3.v,r2.v,r1.v,r0.v] r6.h' (aj 0 v5 (dt (dy [r0,r1,r2,r3,r4,r5,r6] [5]) r6.h') kVH) fun r7=>sRd [r7.v,r6.v,r5.v,r4.v,r3.v,r2.v,r1.v,r0.v] r7.h' (ao r7.v (dt (dy [r0,r1,r2,r3,r4,r5,r6,r7] [5]) r7.h') kVH) fun r8=>sRd [r8.v,r7.v,r6.v,r5.v,r4.v,r3.v,r2.v,r1.v,r0.v] r8.h' (kh true (.int 9223372036854775807 0) r8.v (dt (dy [r0,r1,r2,r3,r4,r5,r6,r7,r8] [5]) r8.h') kVH) fun r9=>sRd [r9.v,r8.v,r7.v,r6.v,r5.v,r4.v,r3.v,r2.v,r1.v,r0.v] r9.h' (aj 1 v5 (dt (dy [r0,r1,r2,r3,r4,r5,r6,r7,r8,r9] [5]) r9.h') kVH) fun r10=>sRd [r10.v,r9.v,r8.v,r7.v,r6.v,r5.v,r4.v,r3.v,r2.v,r1.v,r0.v] r10.h' (ao r10.v (dt (dy [r0,r1,r2,r3,r4,r5,r6,r7,r8,r9,r10] [5]) r10.h') kVH) fun r11=>sRd [r11.v,r10.v,r9.v,r8.v,r7.v,r6.v,r5.v,r4.v,r3.v,r2.v,r1.v,r0.v] r11.h' (aj 2 v5 (dt (dy [r0,r1,r2,r3,r4,r5,r6,r7,r8,r9,r10,r11] [5]) r11.h') kVH) fun r12=>sRd [r12.v,r11.v,r10.v,r9.v,r8.v,r7.v,r6.v,r5.v,r4.v,r3.v,r2.v,r1.v,r0.v] r12.h' (ao r12.v (dt (dy [r0,r1,r2,r3,r4,r5,r6,r7,r8,r9,r10,r11,r12] [5]) r12.h') kVH) fun r13=>sRd [r13.v,r12.v,r11.v,r10.v,r9.v,r8.v,r7.v,r6.v,r5.v,r4.v,r3.v,r2.v,r1.v,r0.v] r13.h' (dX (placeOf (CL mx) [(0,3),(1,3),(2,3)]) [.int 9223372036854775807 0,.int 9223372036854775807 0,.int 9223372036854775807 0] [(0,r9.v),(1,r11.v),(2,r13.v)] (dt (dy [r0,r1,r2,r3,r4,r5,r6,r7,r8,r9,r10,r11,r12,r13] [5]) r13.h') kVH) fun r14=>sRd [r14.v,r13.v,r12.v,r11.v,r10.v,r9.v,r8.v,r7.v,r6.v,r5.v,r4.v,r3.v,r2.v,r1.v,r0.v] r14.h' (aj 1 v9 (dt (dy [r0,r1,r2,r3,r4,r5,r6,r7,r8,r9,r10,r11,r12,r13,r14] [5]) r14.h') kVH) fun r15=>sRd [r15.v,r14.v,r13.v,r12.v,r11.v,r10.v,r9.v,r8.v,r7.v,r6.v,r5.v,r4.v,r3.v,r2.v,r1.v,r0.v] r15.h' (ao r15.v (dt (dy [r0,r1,r2,r3,r4,r5,r6,r7,r8,r9,r10,r11,r12,r13,r14,r15] [5]) r15.h') kVH) fun r16=>sMk [r16.v,r15.v,r14.v,r13.v,r12.v,r11.v,r10.v,r9.v,r8.v,r7.v,r6.v,r5.v,r4.v,r3.v,r2.v,r1.v,r0.v] r16.h' (fun h=>adz 1 8 [.int 18446744073709551615 0] r16.v r16.v h kVH) fun r17=>sRd [r17.v,r16.v,r15.v,r14.v,r13.v,r12.v,r11.v,r10.v,r9.v,r8.v,r7.v,r6.v,r5.v,r4.v,r3.v,r2.v,r1.v,r0.v] r17.h' (aj 2 v9 (dt (dy [r0,r1,r2,r3,r4,r5,r6,r7,r8,r9,r10,r11,r12,r13,r14,r15,r16,r17] [5,17]) r17.h') kVH) fun r18=>sRd [r18.v,r17.v,r16.v,r15.v,r14.v,r13.v,r12.v,r11.v,r10.v,r9.v,r8.v,r7.v,r6.v,r5.v,r4.v,r3.v,r2.v,r1.v,r0.v] r18.h' (ao r18.v (dt (dy [r0,r1,r2,r3,r4,r5,r6,r7,r8,r9,r10,r11,r12,r13,r14,r15,r16,r17,r18] [5,17]) r18.h') kVH) fun r19=>sMk [r19.v,r18.v,r17.v,r16.v,r15.v,r14.v,r13.v,r12.v,r11.v,r10.v,r9.v,r8.v,r7.v,r6.v,r5.v,r4.v,r3.v,r2.v,r1.v,r0.v] r19.h' (fun h=>adz 2 16 [.int 9223372036854775807 0,.int 9223372036854775807 0] r19.v r19.v h kVH) fun r20=>sRd [r20.v,r19.v,r18.v,r17.v,r16.v,r15.v,r14.v,r13.v,r12.v,r11.v,r10.v,r9.v,r8.v,r7.v,r6.v,r5.v,r4.v,r3.v,r2.v,r1.v,r0.v] r20.h' (dX (placeOf (CL mx) [(0,64),(1,4),(2,22),(3,65)]) [.int 18446744073709551615 0,.bool false,.aa,.aa] [] (dt (dy [r0,r1,r2,r3,r4,r5,r6,r7,r8,r9,r10,r11,r12,r13,r14,r15,r16,r17,r18,r19,r20] [5,17,20]) r20.h') kVH) fun r21=>sMk [r21.v,r20.v,r19.v,r18.v,r17.v,r16.v,r15.v,r14.v,r13.v,r12.v,r11.v,r10.v,r9.v,r8.v,r7.v,r6.v,r5.v,r4.v,r3.v,r2.v,r1.v,r0.v] r21.h' (fun h=>fA 4 1 [.int 18446744073709551615 0,.bool false,.aa,.aa] [(0,r21.v)] h kVH) fun r22=>sRd [r22.v,r21.v,r20.v,r19.v,r18.v,r17.v,r16.v,r15.v,r14.v,r13.v,r12.v,r11.v,r10.v,r9.v,r8.v,r7.v,r6.v,r5.v,r4.v,r3.v,r2.v,r1.v,r0.v] r22.h' (dX (placeOf (CL mx) [(0,280),(4,281),(5,97),(6,22),(7,38),(10,3),(11,3),(12,3),(13,3),(14,286),(15,287),(16,65),(17,177),(18,286),(19,177),(20,32)]) [.aa,.int 9223372036854775807 0,.int 9223372036854775807 0,.int 9223372036854775807 0,.aa,.nil,.aa,.int 9223372036854775807 0,.int 9223372036854775807 0,.int 9223372036854775807 0,.int 9223372036854775807 0,.int 9223372036854775807 0,.int 9223372036854775807 0,.int 9223372036854775807 0,.aa,.aa,.aa,.aa,.aa,.aa,.int 9223372036854775807 0,.int 9223372036854775807 0] [(0,r0.v),(1,r4.v),(2,r5.v),(3,r6.v),(4,r14.v),(9,r17.v),(10,r20.v),(11,r22.v)] r22.h' kVH) fun r23=>sMk [r23.v,r22.v,r21.v,r20.v,r19.v,r18.v,r17.v,r16.v,r15.v,r14.v,r13.v,r12.v,r11.v,r10.v,r9.v,r8.v,r7.v,r6.v,r5.v,r4.v,r3.v,r2.v,r1.v,r0.v] r23.h' (fun h=>fQ 290 r23.v h kVH) fun r24=>sRd [r24.v,r23.v,r22.v,r21.v,r20.v,r19.v,r18.v,r17.v,r16.v,r15.v,r14.v,r13.v,r12.v,r11.v,r10.v,r9.v,r8.v,r7.v,r6.v,r5.v,r4.v,r3.v,r2.v,r1.v,r0.v] r24.h' (aW r24.v r24.h' kVH) fun r25=>bq (true) (some (.st (bm v0 v1 v2 v5 d v7 l v9 r25.v v11 v46 v67 v76) r25.h')) none)):=(eW (C:=CL mx) [1,1,0] 89 [0,1,2,5,6,7,8,9,10,11,46,67,76] (by kernel_rfl) _ _ _).trans (by kernel_rfl)
theorem aiH:kc (CL mx) run lp (ann mx) ⟨bm v0 v1 v2 v5 d v7 l v9 v10 v11 v46 v67 v76,h⟩ κn κx=kc (CL mx) run lp (aog mx) ⟨bm v0 v1 v2 v5 d v7 l v9 v10 v11 v46 v67 v76,h⟩ (fun s=>kc (CL mx) run lp (aer mx) s κn κx) κx:=by kernel_rfl
theorem ahQ:kc (CL mx) run lp (aog mx) ⟨bm v0 v1 v2 v5 d v7 l v9 v10 v11 v46 v67 v76,h⟩ κn κx=kcR κn (kcO 0 κn κx) (lp (vJ mx) ⟨bm v0 v1 v2 v5 d v7 l v9 v10 (.int 9223372036854775807 0) v46 v67 v76,h⟩):=by kernel_rfl
theorem ajl:kc (CL mx) run lp (aer mx) ⟨bm v0 v1 v2 v5 d v7 l v9 v10 v11 v46 v67 v76,h⟩ κn κx=kc (CL mx) run lp (ak6 mx) ⟨bm v0 v1 v2 v5 d v7 l v9 v10 v11 v46 v67 v76,h⟩ (fun s=>kc (CL mx) run lp (acp mx) s κn κx) κx:=by kernel_rfl
theorem oh:kc (CL mx) run lp (vJ mx) ⟨bm v0 v1 v2 v5 d v7 l v9 v10 v11 v46 v67 v76,h⟩ κn κx=aP (fun a0 h=>aC a0 true (fun κ=>aW v11 h κ) h (fun a1 h=>aC a0 true (fun κ=>cmp ige a1 (.int 9223372036854775807 0) h κ) h (fun a2 h=>fw a0 a2 (.bool false) h (fun a3 h=>bJ a3 (aM v10 h (fun a4 h=>aj 13 a4 h (fun a5 h=>ao a5 h (fun a6 h=>arith cg a6 (.int 9223372036854775807 1) h (fun a7 h=>aM v10 h (fun a8 h=>aj 13 a8 h (fun a9 h=>bQ a9 a7 h (fun a10 h=>aP (fun a11 h=>κn ⟨bm v0 v1 v2 v5 d v7 l v9 v10 a11 a3 v67 v76,h⟩) (aH (CL mx) run 137 [v10,v11] h))))))))) (κx (.exit 0) ⟨bm v0 v1 v2 v5 d v7 l v9 v10 v11 a3 v67 v76,h⟩))))) (aH (CL mx) run 136 [v10] h):=by kernel_rfl
theorem rH:kc (CL mx) run lp (ak6 mx) ⟨bm v0 v1 v2 v5 d v7 l v9 v10 v11 v46 v67 v76,h⟩ κn κx=aP (fun a0 h=>aC a0 true (fun κ=>aW v10 h κ) h (fun a1 h=>aC a0 true (fun κ=>aM a1 h κ) h (fun a2 h=>aC a0 true (fun κ=>aj 10 a2 h κ) h (fun a3 h=>aC a0 true (fun κ=>ao a3 h κ) h (fun a4 h=>aC a0 true (fun κ=>aW v1 h κ) h (fun a5 h=>aC a0 true (fun κ=>bG a5 h κ) h (fun a6 h=>aC a0 true (fun κ=>cmp ilt a4 a6 h κ) h (fun a7 h=>fw a0 a7 (.bool false) h (fun a8 h=>bJ a8 (aM v10 h (fun a9 h=>aj 10 a9 h (fun a10 h=>ao a10 h (fun a11 h=>aP (fun a12 h=>κn ⟨bm v0 v1 v2 v5 d v7 l v9 v10 v11 v46 a8 v76,h⟩) (aH (CL mx) run 138 [v10,(.int 9223372036854775807 216),a11] h))))) (κn ⟨bm v0 v1 v2 v5 d v7 l v9 v10 v11 v46 a8 v76,h⟩)))))))))) (aH (CL mx) run 136 [v10] h):=by kernel_rfl
theorem w9:kc (CL mx) run lp (acp mx) ⟨bm v0 v1 v2 v5 d v7 l v9 v10 v11 v46 v67 v76,h⟩ κn κx=kc (CL mx) run lp (ak8 mx) ⟨bm v0 v1 v2 v5 d v7 l v9 v10 v11 v46 v67 v76,h⟩ (fun s=>kc (CL mx) run lp (alV mx) s κn κx) κx:=by kernel_rfl
theorem xg:kc (CL mx) run lp (ak8 mx) ⟨bm v0 v1 v2 v5 d v7 l v9 v10 v11 v46 v67 v76,h⟩ κn κx=aP (fun a0 h=>oE a0 h (fun a1 h=>bJ a1 (kc (CL mx) run lp (agA mx) ⟨bm v0 v1 v2 v5 d v7 l v9 v10 v11 v46 v67 a1,h⟩ (fun s=>kc (CL mx) run lp (aeQ mx) s κn κx) κx) (κn ⟨bm v0 v1 v2 v5 d v7 l v9 v10 v11 v46 v67 a1,h⟩))) (aH (CL mx) run 136 [v10] h):=by kernel_rfl
theorem ah9:kc (CL mx) run lp (alV mx) ⟨bm v0 v1 v2 v5 d v7 l v9 v10 v11 v46 v67 v76,h⟩ κn κx=kc (CL mx) run lp (af7 mx) ⟨bm v0 v1 v2 v5 d v7 l v9 v10 v11 v46 v67 v76,h⟩ (fun s=>kc (CL mx) run lp (agD mx) s κn κx) κx:=by kernel_rfl
theorem aed:kc (CL mx) run lp (agA mx) ⟨bm v0 v1 v2 v5 d v7 l v9 v10 v11 v46 v67 v76,h⟩ κn κx=kcR κn κx ((fun tt=>dr (sRd [] h (dX (placeOf (CL mx) [(0,64),(1,4),(2,22),(3,65)]) [.int 18446744073709551615 0,.bool false,.aa,.aa] [] h kVH) fun r0=>sRd [r0.v] r0.h' (aW v10 r0.h' kVH) fun r1=>sRd [r1.v,r0.v] r1.h' (aM r1.v r1.h' kVH) fun r2=>sRd [r2.v,r1.v,r0.v] r2.h' (aj 13 r2.v r2.h' kVH) fun r3=>sRd [r3.v,r2.v,r1.v,r0.v] r3.h' (ao r3.v r3.h' kVH) fun r4=>sRd [r4.v,r3.v,r2.v,r1.v,r0.v] r4.h' (aW v10 r4.h' kVH) fun r5=>sRd [r5.v,r4.v,r3.v,r2.v,r1.v,r0.v] r5.h' (aM r5.v r5.h' kVH) fun r6=>sRd [r6.v,r5.v,r4.v,r3.v,r2.v,r1.v,r0.v] r6.h' (aj 20 r6.v r6.h' kVH) fun r7=>sRd [r7.v,r6.v,r5.v,r4.v,r3.v,r2.v,r1.v,r0.v] r7.h' (aF 2 r7.v r7.h' kVH) fun r8=>sEf [r8.v,r7.v,r6.v,r5.v,r4.v,r3.v,r2.v,r1.v,r0.v] r8.h' (ay 4 d r0.v r8.h' kVH) fun r9=>sRd [r9.v,r8.v,r7.v,r6.v,r5.v,r4.v,r3.v,r2.v,r1.v,r0.v] r9.h' (aW r4.v r9.h' kVH) fun r10=>sEf [r10.v,r9.v,r8.v,r7.v,r6.v,r5.v,r4.v,r3.v,r2.v,r1.v,r0.v] r10.h' (ay 2 l r8.v r10.h' kVH) fun r11=>bq (and (aG r1 (OK.f (.mk (o1 aW (.tr 10))) (CL mx) run r1.σ tt (aN (ag r1.h) r9.h') kVH)) (and (aG r2 (OK.f (.mk (o1 aM (.st 0))) (CL mx) run r2.σ tt (aN (ag r2.h) r9.h') kVH)) (and (aG r3 (OK.f (.mk (o1 (aj 13) (.st 0))) (CL mx) run r3.σ tt (aN (ag r3.h) r9.h') kVH)) (and (aG r4 (OK.f (.mk (o1 ao (.st 0))) (CL mx) run r4.σ tt (aN (ag r4.h) r9.h') kVH)) (and (aG r5 (OK.f (.mk (o1 aW (.tr 10))) (CL mx) run r5.σ tt (aN (ag r5.h) r9.h') kVH)) (and (aG r6 (OK.f (.mk (o1 aM (.st 0))) (CL mx) run r6.σ tt (aN (ag r6.h) r9.h') kVH)) (and (aG r7 (OK.f (.mk (o1 (aj 20) (.st 0))) (CL mx) run r7.σ tt (aN (ag r7.h) r9.h') kVH)) (and (aG r8 (OK.f (.mk (o1 (aF 2) (.st 0))) (CL mx) run r8.σ tt (aN (ag r8.h) r9.h') kVH)) (true))))))))) (some (.st (bm v0 v1 v2 v5 d r10.v l v9 v10 v11 v46 v67 v76) r11.h')) none)) (bm v0 v1 v2 v5 d v7 l v9 v10 v11 v46 v67 v76)):=(eW (C:=CL mx) [1,1,1,1,1,0,1,0,0] 89 [0,1,2,5,6,7,8,9,10,11,46,67,76] (by kernel_rfl) _ _ _).trans (by kernel_rfl)
theorem adT:kc (CL mx) run lp (aeQ mx) ⟨bm v0 v1 v2 v5 d v7 l v9 v10 v11 v46 v67 v76,h⟩ κn κx=κx .ret ⟨bm v0 v1 v2 v5 d v7 l v9 v10 v11 v46 v67 v76,h⟩:=by kernel_rfl
theorem ab9:kc (CL mx) run lp (af7 mx) ⟨bm v0 v1 v2 v5 d v7 l v9 v10 v11 v46 v67 v76,h⟩ κn κx=kcR κn κx ((fun tt=>dr (sRd [] h (aW v10 h kVH) fun r0=>sRd [r0.v] r0.h' (aM r0.v r0.h' kVH) fun r1=>sRd [r1.v,r0.v] r1.h' (aj 16 r1.v r1.h' kVH) fun r2=>sRd [r2.v,r1.v,r0.v] r2.h' (ao r2.v r2.h' kVH) fun r3=>sRd [r3.v,r2.v,r1.v,r0.v] r3.h' (bM 4 r3.v (.int 9223372036854775807 0) r3.h' kVH) fun r4=>sRd [r4.v,r3.v,r2.v,r1.v,r0.v] r4.h' (aj 3 r4.v r4.h' kVH) fun r5=>sRd [r5.v,r4.v,r3.v,r2.v,r1.v,r0.v] r5.h' (ao r5.v r5.h' kVH) fun r6=>sRd [r6.v,r5.v,r4.v,r3.v,r2.v,r1.v,r0.v] r6.h' (bM 4 r6.v (.int 9223372036854775807 0) r6.h' kVH) fun r7=>sRd [r7.v,r6.v,r5.v,r4.v,r3.v,r2.v,r1.v,r0.v] r7.h' (aF 4 r7.v r7.h' kVH) fun r8=>sRd [r8.v,r7.v,r6.v,r5.v,r4.v,r3.v,r2.v,r1.v,r0.v] r8.h' (aW v10 r8.h' kVH) fun r9=>sRd [r9.v,r8.v,r7.v,r6.v,r5.v,r4.v,r3.v,r2.v,r1.v,r0.v] r9.h' (aM r9.v r9.h' kVH) fun r10=>sRd [r10.v,r9.v,r8.v,r7.v,r6.v,r5.v,r4.v,r3.v,r2.v,r1.v,r0.v] r10.h' (aj 13 r10.v r10.h' kVH) fun r11=>sRd [r11.v,r10.v,r9.v,r8.v,r7.v,r6.v,r5.v,r4.v,r3.v,r2.v,r1.v,r0.v] r11.h' (ao r11.v r11.h' kVH) fun r12=>sRd [r12.v,r11.v,r10.v,r9.v,r8.v,r7.v,r6.v,r5.v,r4.v,r3.v,r2.v,r1.v,r0.v] r12.h' (dX (placeOf (CL mx) [(0,30),(1,3)]) [.int 9223372036854775807 0,.int 9223372036854775807 0] [] r12.h' kVH) fun r13=>sEf [r13.v,r12.v,r11.v,r10.v,r9.v,r8.v,r7.v,r6.v,r5.v,r4.v,r3.v,r2.v,r1.v,r0.v] r13.h' (ay 4 d r8.v r13.h' kVH) fun r14=>sRd [r14.v,r13.v,r12.v,r11.v,r10.v,r9.v,r8.v,r7.v,r6.v,r5.v,r4.v,r3.v,r2.v,r1.v,r0.v] r14.h' (aW r12.v r14.h' kVH) fun r15=>sEf [r15.v,r14.v,r13.v,r12.v,r11.v,r10.v,r9.v,r8.v,r7.v,r6.v,r5.v,r4.v,r3.v,r2.v,r1.v,r0.v] r15.h' (ay 2 l r13.v r15.h' kVH) fun r16=>bq (and (aG r9 (OK.f (.mk (o1 aW (.tr 10))) (CL mx) run r9.σ tt (aN (ag r9.h) r14.h') kVH)) (and (aG r10 (OK.f (.mk (o1 aM (.st 0))) (CL mx) run r10.σ tt (aN (ag r10.h) r14.h') kVH)) (and (aG r11 (OK.f (.mk (o1 (aj 13) (.st 0))) (CL mx) run r11.σ tt (aN (ag r11.h) r14.h') kVH)) (and (aG r12 (OK.f (.mk (o1 ao (.st 0))) (CL mx) run r12.σ tt (aN (ag r12.h) r14.h') kVH)) (and (aG r13 (OK.f (.mk (zM (placeOf (CL mx) [(0,30),(1,3)]) [.int 9223372036854775807 0,.int 9223372036854775807 0] [])) (CL mx) run r13.σ tt (aN (ag r13.h) r14.h') kVH)) (true)))))) (some (.st (bm v0 v1 v2 v5 d r15.v l v9 v10 v11 v46 v67 v76) r16.h')) none)) (bm v0 v1 v2 v5 d v7 l v9 v10 v11 v46 v67 v76)):=(eW (C:=CL mx) [1,1,1,1,1,1,0] 89 [0,1,2,5,6,7,8,9,10,11,46,67,76] (by kernel_rfl) _ _ _).trans (by kernel_rfl)
theorem ac6:kc (CL mx) run lp (agD mx) ⟨bm v0 v1 v2 v5 d v7 l v9 v10 v11 v46 v67 v76,h⟩ κn κx=κx .ret ⟨bm v0 v1 v2 v5 d v7 l v9 v10 v11 v46 v67 v76,h⟩:=by kernel_rfl
theorem sI:bc (bm v0 v1 v2 v5 d v7 l v9 v10 v11 v46 v67 v76) 10=v10:=(rfl)
theorem abB:kcE (CL mx) [.cell 6 67,.tmp 7,.cell 8 32] ⟨bm v0 v1 v2 v5 d v7 l v9 v10 v11 v46 v67 v76,h⟩=aF 4 d h (fun r0 _=>aF 2 l h (fun r1 _=>some (.vh (.tup [r0,v7,r1]) h))):=(bW _ _ _).trans (by kernel_rfl)
theorem aqz:dz (CL mx) 89=some ⟨ac5 mx,[0,1,2,5,6,7,8,9,10,11,46,67,76],100,[.cell 6 67,.tmp 7,.cell 8 32]⟩:=by kernel_rfl
end
theorem ank (mx:Int) (run:Run) (lp:Lp) (x0 x1 x2:AV) (h:AH):dk (CL mx) run lp 89 [x0,x1,x2] h=vhO (kc (CL mx) run lp (ac5 mx) ⟨bm x0 x1 x2 .bot .bot .bot .bot .bot .bot .bot .bot .bot .bot,h⟩ (kcE (CL mx) [.cell 6 67,.tmp 7,.cell 8 32]) (kcQ (CL mx) [.cell 6 67,.tmp 7,.cell 8 32])):=(bV (by kernel_rfl) (aqz mx) (by kernel_rfl)).trans (by kernel_rfl)
theorem vx (mx:Int) (p:List Nat):eQ (CL mx) (kAt p (kOf (CL mx) 89)):=iX p (iT (CL mx) 89)
end
section
variable {mx:Int} {m:Nat} {K:RC} {kd:Nat→Nat} {h:AH} {p:Nat} {c:PC} {s:PR}
inductive bF (c:PC) (P:List PS):Nat→PR→PR→Nat→Prop
 |bad (i:Nat) (s:PR) (e:s.code≠0):bF c P i s s 0
 |stop {i:Nat} {s:PR} {q:PS} (e:s.code=0) (eq:P[i]? =some q) (W:Wf c s) (W1:Wf c (s.open_ c)) (pre:acG c q s) (es:(s.step c q i).1=none):bF c P i s (s.step c q i).2 1
 |next {i j n:Nat} {s t:PR} {q:PS} (e:s.code=0) (eq:P[i]? =some q) (W:Wf c s) (W1:Wf c (s.open_ c)) (pre:acG c q s) (es:(s.step c q i).1=some j) (r:bF c P j (s.step c q i).2 t n):bF c P i s t (n+1)
theorem qm.frm {v:AV} {i:Nat} {q:PS} {h':AH} (a:qm m h v i q) (f: ∀i,i<m→ab h' i=ab h i):qm m h' v i q:=by
 obtain ⟨P,wv,bs,ix,lG,hb,hp,hw,hbb⟩:=a;exact ⟨P,wv,bs,ix,fun h2 f2=>lG h2 fun j hj=>(f2 j hj).trans (f j hj),hb,hp,hw.mono fun b _ hb=>⟨hb,f b hb⟩,hbb⟩
theorem alY {Q:Option Rs→Prop} {κn:Kt} {κx:Ex→Kt} {M n0:Nat} {P:List PS} {v0 v1 v2 v5 d v7 l v9 v67 v76:AV} (hP:P.length≤1000000) (hM: ∀q∈P,q.ways.length≤M) (hmn:m≤n0):
 ∀{i n:Nat} {s t:PR},bF c P i s t n→ ∀(kd:Nat→Nat) (h:AH) (f:Nat) (v46:AV),n+M+104≤f→RS m K kd h p c s→(∀i q,P[i]? =some q→qm m h K.p0 i q)→n0≤h.length→
  (∀h' i' v46,Nx n0 m K kd h p c t h'→Q (κx (.exit 0) ⟨bm v0 v1 v2 v5 d v7 l v9 (.pto p 0) (.int 9223372036854775807 i') v46 v67 v76,h'⟩))→
  Q (kcR κn κx ((rl (CL mx) f).lp (vJ mx) ⟨bm v0 v1 v2 v5 d v7 l v9 (.pto p 0) (.int 9223372036854775807 (i:Int)) v46 v67 v76,h⟩)):=by
 have step: ∀(kd:Nat→Nat) (h:AH) {i:Nat} {s:PR} {q:PS} (f:Nat),RS m K kd h p c s→s.code=0→P[i]? =some q→Wf c s→Wf c (s.open_ c)→acG c q s→qm m h K.p0 i q→n0≤h.length→ ∀(v46:AV),
  (∀h',Nx n0 m K kd h p c (s.step c q i).2 h'→Q (kcR κn κx ((rl (CL mx) (f+M+100)).lp (vJ mx) ⟨bm v0 v1 v2 v5 d v7 l v9 (.pto p 0) (.int 9223372036854775807 (stI (s.step c q i).1)) (.bool true) v67 v76,h'⟩)))→
  Q (kcR κn κx ((rl (CL mx) (f+M+101)).lp (vJ mx) ⟨bm v0 v1 v2 v5 d v7 l v9 (.pto p 0) (.int 9223372036854775807 (i:Int)) v46 v67 v76,h⟩)):=by
  intro kd h i s q f R e eq W W1 pre A hn0 v46 k;have hi:i≤1000000:=by have:=(Bc.1 eq).1;omega
  have hw:=hM q (Bg eq);obtain ⟨g,hg⟩: ∃g,f+M+100=g+q.ways.length+100:=⟨f+M-q.ways.length,by omega⟩;have okc:=gd (mx:=mx) R (f+M+99);obtain ⟨stp,y,sl,st,ct,cl,QQ,hp,o2,o3,ok,o4,o5⟩:=R.ex;have R2:=R.upd (s':=s) (stp':=aQ 9223372036854775807 (stp+1)) (y':=y) o2 o3 ok o4 o5;have A2:qm m (h.set p (some (.cells (rdL K c s (aQ 9223372036854775807 (stp+1)) sl st ct cl) y))) K.p0 i q:=A.frm fun j hj=>ae (R.iV (R.lo j hj)) _
  have hp':=hp;unfold rdL at hp';have g1:decide ((i:Int)≥0)=true:=by rw [decide_eq_true_iff];omega
  have g2:decide (0≤(i:Int))=true:=by rw [decide_eq_true_iff];omega
  have sg:=ag6 (mx:=mx) R2 W W1 hi A2 pre g;rw [←hg] at sg;refine de (vx mx _) ?_;simp only [sy,A7,seval,oh,okc,decide_eq_true e,g1,g2,hp'];refine cy sg.call ?_;rintro x h' ⟨rfl,nx⟩;refine k h' ?_;obtain ⟨kd',R',l',f'⟩:=nx;rw [Bb] at l' f';exact ⟨kd',R',l',fun i hi h0=>by
   have a:=f' i (by omega) h0;exact ⟨by rw [a.1,ae (R.iV h0)],a.2⟩⟩
 intro i n s t r
 induction r with
 |bad i s e=>
  intro kd h f v46 hf R A hn0 k;obtain ⟨f,rfl⟩: ∃q,f=q+2:=⟨f-2,by omega⟩;have okc:=gd (mx:=mx) R f;refine de (vx mx _) ?_;simp only [sy,A7,seval,oh,okc,decide_eq_false e];exact k _ _ _ ⟨kd,R,A9 _,fun i _ h0=>⟨rfl,h0⟩⟩
 | @stop i s q e eq W W1 pre es=>
   intro kd h f v46 hf R A hn0 k;obtain ⟨f,rfl⟩: ∃q,f=q+M+101:=⟨f-M-101,by omega⟩;refine step kd h f R e eq W W1 pre (A _ _ eq) hn0 v46 fun h' nx=>?_
   rw [es];have nx':=nx;obtain ⟨kd',R',l',f'⟩:=nx';have okc:=gd (mx:=mx) R' (f+M+98);refine de (vx mx _) ?_;have g1:decide ((-1:Int)≥0)=false:=by decide
   have g2:decide ((0:Int)≤ -1)=false:=by decide
   by_cases hc:(PR.step c q i s).2.code=0
   ·simp only [sy,A7,seval,oh,okc,decide_eq_true hc,stI,g1,g2]
    exact k _ _ _ nx
   ·simp only [sy,A7,seval,oh,okc,decide_eq_false hc,stI]
    exact k _ _ _ nx
 |next e eq W W1 pre es r ih=>
  intro kd h f v46 hf R A hn0 k;obtain ⟨f,rfl⟩: ∃q,f=q+M+101:=⟨f-M-101,by omega⟩;refine step kd h f R e eq W W1 pre (A _ _ eq) hn0 v46 fun h' nx=>?_
  rw [es];obtain ⟨kd',R',l',f'⟩:=nx;refine ih kd' h' (f+M+100) (.bool true) (by omega) R' (fun i q e=>(A i q e).frm fun j hj=>(f' j (by omega) (R.lo j hj)).1) (by omega) fun h2 i' v46 nx2=>?_
  refine k h2 i' v46 ?_;obtain ⟨kd2,R2,l2,f2⟩:=nx2;exact ⟨kd2,R2,by omega,fun i hi h0=>by
   have a:=f' i hi h0;have b:=f2 i hi a.2;exact ⟨b.1.trans a.1,b.2⟩⟩
end
section
variable {mx:Int} {m:Nat} {K:RC} {kd:Nat→Nat} {h:AH} {p:Nat} {c:PC} {s:PR}
theorem kK (place:Nat→Option (Nat×Nat)) (z:List AV) (h:AH) (κ:Ka):dX place z [] h κ=κ (.agg z) h:=cZ rfl
theorem bB {n b y:Nat} {cs q:List AV} (hb:ab h b=some (.cells cs y)) (hc:cs.length=n) (hq:q.length=n) (hp:aO q=true) (κ:Ka):ay n (.pto b 0) (.agg q) h κ=κ (.tup []) (h.set b (some (.cells q y))):=by
 rw [qy,hb,aT,decide_eq_true hq,hp];show bq (decide (0+q.length≤cs.length)) (κ (.tup []) (h.set b (some (.cells (cs.take 0++(q++cs.drop (0+q.length))) y)))) none=_;rw [bK (by omega),C1,BE,CP (by omega),BO,Bx]
theorem bg {n b y:Nat} {q:List AV} (hb:ab h b=some (.cells q y)) (hq:q.length=n) (κ:Ka):aF n (.pto b 0) h κ=κ (.agg q) h:=by
 rw [jJ,hb,aT];show bq (decide (0+n≤q.length)) (κ (.agg ((q.drop 0).take n)) h) none=_;rw [bK (by omega),BF,←hq,Cc]
def PR.rest (c:PC) (s:PR):PR:=if s.code=0∧s.at_<c.data.length then s.cd 216 s.at_ else s
def ScR (n0:Nat) (h:AH) (F:PR) (x:AV) (h':AH):Prop:=
 n0≤h'.length∧(∀i,i<n0→ab h' i=ab h i)∧ ∃stp:Int,
  (F.code≠0∧x= .tup [.agg ZT,.int 9223372036854775807 stp,.agg [N64 F.code,N64 F.fat]])∨
  (F.code=0∧ ∃n b d t0 ks q0,F.stack=[.nd n b d (t0::ks)]∧x= .tup [.agg q0,.int 9223372036854775807 stp,.agg [N64 0,N64 0]]∧eX h' (fun b=>n0≤b) q0 t0)
theorem arU {n0 b6 b8 y6 y8:Nat} {lp:Lp} {v0 v2 v5 v7 v9 v11 v46 v67 v76:AV} {c6 c8:List AV} (R:RS m K kd h p c s) (W:s.at_≤1000000000) (h6:ab h b6=some (.cells c6 y6)) (l6:c6.length=4) (h8:ab h b8=some (.cells c8 y8)) (l8:c8.length=2) (k6:kd b6=0) (k8:kd b8=0) (h68:b6≠b8) (n6:n0≤b6) (n8:n0≤b8) (hn0:n0≤h.length) (hk: ∀i,i<n0→kd i=0)
 (hst:(s.rest c).code=0→ ∃n b d t0 ks,s.stack=[.nd n b d (t0::ks)]) (f:Nat):
 Ends (ScR n0 h (s.rest c)) (kc (CL mx) (rl (CL mx) (f+3)).run lp (aer mx) ⟨bm v0 K.dv v2 v5 (.pto b6 0) v7 (.pto b8 0) v9 (.pto p 0) v11 v46 v67 v76,h⟩ (kcE (CL mx) [.cell 6 67,.tmp 7,.cell 8 32]) (kcQ (CL mx) [.cell 6 67,.tmp 7,.cell 8 32])):=by
 have okc:=gd (mx:=mx) R (f+2);have hlen:=R.len;have len:=fun κ=>R.dat.at.bG h κ
 rw [ba] at len;refine wEq (ajl ..) ?_;have A: ∀(h1:AH) (F:PR) (v67:AV),RS m K kd h1 p c F→h1.length=h.length→(∀i,kd i≠1→ab h1 i=ab h i)→(F.code=0→ ∃n b d t0 ks,F.stack=[.nd n b d (t0::ks)])→Ends (ScR n0 h F) (kc (CL mx) (rl (CL mx) (f+3)).run lp (acp mx) ⟨bm v0 K.dv v2 v5 (.pto b6 0) v7 (.pto b8 0) v9 (.pto p 0) v11 v46 v67 v76,h1⟩ (kcE (CL mx) [.cell 6 67,.tmp 7,.cell 8 32]) (kcQ (CL mx) [.cell 6 67,.tmp 7,.cell 8 32])):=by
  intro h1 F v67 R1 n1 f1 hF;have okc:=gd (mx:=mx) R1 (f+2);obtain ⟨stp,y,sl,st,ct,cl,QQ,hp,o2,o3,ok,o4,o5⟩:=R1.ex;have hp':=hp;unfold rdL at hp';have hpl:=aJ hp;have e6:ab h1 b6=some (.cells c6 y6):=by rw [f1 _ (by rw [k6];decide)];exact h6
  have e8:ab h1 b8=some (.cells c8 y8):=by rw [f1 _ (by rw [k8];decide)];exact h8
  have ltp: ∀j,AV.lt (ag h1) (.pto p j)=true:=fun j=>by rw [fE,ah,decide_eq_true_iff];exact hpl
  have lti: ∀(k:Nat) (x:Int),AV.lt (ag h1) (.int k x)=true:=fun k x=>rfl
  have kp:=R1.kp;have p6:p≠b6:=R1.iV k6;have p8:p≠b8:=R1.iV k8;have fin: ∀{q6 q8:List AV} {x:AV},(∀h',h'=(h1.set b6 (some (.cells q6 y6))).set b8 (some (.cells q8 y8))→n0≤h'.length∧ ∀i,i<n0→ab h' i=ab h i):=fun {q6 q8 x} h' e=>by
   subst e;refine ⟨by rw [Bb,Bb];omega,fun i hi=>?_⟩;rw [ae (by omega),ae (by omega),f1 i (by rw [hk i hi];decide)]
  have sv: ∀(q6 q8:List AV),q6.length=4→aO q6=true→q8.length=2→aO q8=true→ ∃P6 P8 h2 h3,P6=AV.pto b6 0∧P8=AV.pto b8 0∧h3=(h1.set b6 (some (.cells q6 y6))).set b8 (some (.cells q8 y8))∧h2.length=h1.length∧aN (ag h1) h2=h2∧decide (h1.length≤h2.length)=true∧decide (h2.length≤h3.length)=true∧(∀i,i≠b6→ab h2 i=ab h1 i)∧
   (∀κ:Ka,ay 4 P6 (.agg q6) h1 κ=κ (.tup []) h2)∧(∀κ:Ka,ay 2 P8 (.agg q8) h2 κ=κ (.tup []) h3)∧(∀κ:Ka,aF 4 P6 h3 κ=κ (.agg q6) h3)∧(∀κ:Ka,aF 2 P8 h3 κ=κ (.agg q8) h3):=by
   intro q6 q8 a1 a2 a3 a4;refine ⟨_,_,h1.set b6 (some (.cells q6 y6)),_,rfl,rfl,rfl,Bb,?_,by simp,by simp,fun i hi=>ae (Ne.symm hi) _,fun κ=>bB e6 l6 a1 a2 κ,fun κ=>bB (by rw [ae h68];exact e8) l8 a3 a4 κ,fun κ=>bg (y:=y6) ?_ a1 κ,fun κ=>bg (y:=y8) ?_ a3 κ⟩
   ·rw [show ag h1=ag (h1.set b6 (some (.cells q6 y6))) by rw [ah,ah,Bb],eM]
   ·rw [ae (Ne.symm h68),aq (aJ e6)]
   ·rw [aq (by rw [Bb];exact aJ e8)]
  by_cases hc:F.code=0
  ·obtain ⟨n,b,d,t0,ks,e⟩:=hF hc
   rw [e] at ok;obtain ⟨qr,rfl⟩: ∃q,QQ=[q]:=by
    match QQ,ok with
    |[q],_=>exact ⟨q,rfl⟩
    |_::_::_,x=>exact x.2.elim
   have T:=ok.1;unfold eX at T;obtain ⟨dv,kv,hq,hd,hks⟩:=T;have hr1:([qr]:List (List AV)).reverse=[qr]:=rfl;rw [hr1] at o3;obtain ⟨br,hbr,el⟩:=o3.el (i:=0) (q:=qr) rfl;rcases hks with ⟨cc,_⟩|⟨kb,ee,rows,yk,rfl,hkb,hkc,hks⟩
   ·cases cc
   obtain ⟨hrl,hr4⟩:=cH.rows hks;unfold cH at hks;obtain ⟨q0,rr,rfl,T0,_⟩:=hks;have ob:OwB h1 4 (.slo kb 0 (t0::ks).length (t0::ks).length 4 ee) (q0::rr) kb (t0::ks).length ee [] yk:=⟨by rw [hrl],by rw [Bx];exact hkc,by rw [hrl];exact A9 _,by rw [mb hr4,hrl];rfl⟩;have el0:=ob.el hr4 (i:=0) (q:=q0) rfl;obtain ⟨P0,hP0⟩: ∃P,P=AV.pto br (0*4):=⟨_,rfl⟩;obtain ⟨M3,hM3⟩: ∃P,P=AV.pto br (0*4+3):=⟨_,rfl⟩;obtain ⟨Pk,hPk⟩: ∃P,P=AV.pto kb (0*4):=⟨_,rfl⟩;obtain ⟨kv,hkv⟩: ∃v,v=AV.slo kb 0 (t0::ks).length (t0::ks).length 4 ee:=⟨_,rfl⟩;have ix: ∀(k:Nat) (h':AH) (κ:Ka),bM 4 st (.int k 0) h' κ=κ P0 h':=fun k h' κ=>by rw [hP0];exact el.idx k h' κ
   have mv: ∀(h':AH) (κ:Ka),aj 3 P0 h' κ=κ M3 h':=fun h' κ=>by rw [hP0,hM3];rfl
   have ld: ∀κ:Ka,ao M3 h1 κ=κ kv h1:=fun κ=>by rw [hM3,hkv];exact el.ld1 3 _ (by rw [hq];rfl) κ
   have ik: ∀(k:Nat) (h':AH) (κ:Ka),bM 4 kv (.int k 0) h' κ=κ Pk h':=fun k h' κ=>by rw [hPk,hkv];exact el0.idx k h' κ
   have lk: ∀κ:Ka,aF 4 Pk h1 κ=κ (.agg q0) h1:=fun κ=>by rw [hPk];exact el0.ldG κ
   have q0l:=T0.four;obtain ⟨P6,P8,h2,h3,hP6,hP8,hh3,l2,gs,g1,g2,fr2,s6,s8,d6,d8⟩:=sv q0 [N64 0,N64 0] q0l.1 q0l.2 rfl rfl;obtain ⟨m1,m2⟩:=fin (x:=.bot) h3 hh3;have hp2:=(fr2 p p6).trans hp';rw [←hP6,←hP8];have s8: ∀κ:Ka,ay 2 P8 (.agg [.int 9223372036854775807 0,.int 9223372036854775807 0]) h2 κ=κ (.tup []) h3:=s8;have d8: ∀κ:Ka,aF 2 P8 h3 κ=κ (.agg [.int 9223372036854775807 0,.int 9223372036854775807 0]) h3:=d8;have ltl: ∀(k:Nat) (a:Int) (k':Nat) (b:Int),ltL (ag h1) [.int k a,.int k' b]=true:=fun _ _ _ _=>rfl
   have lta: ∀(k:Nat) (a:Int) (k':Nat) (b:Int),AV.lt (ag h1) (.agg [.int k a,.int k' b])=true:=fun _ _ _ _=>rfl
   have epn: ∀(σ:List AV) (t:Tms),evP (CL mx) σ t []=[]:=fun _ _=>rfl
   simp only [sy,A7,seval,w9,xg,ah9,okc,decide_eq_true hc,ab9,jx,lj,jZ,kK,hp',hp2,n64,ix,mv,ld,ik,lk,s6,s8,g1,g2,gs,nj,o1,sH,sG,pF,pf,sI,ep,eM,ltp,lti,ltl,lta,zM,epn,CY,ja,ac6,abB,d6,d8];refine Ends.mk ⟨m1,m2,stp,.inr ⟨hc,n,b,d,t0,ks,q0,e,rfl,T0.mono t0 fun j hj hs=>?_⟩⟩;have hs:kd j=6:=hs.1;have j0:n0≤j:=by
    refine Dj fun cc=>?_
    rw [hk j cc] at hs;cases hs
   refine ⟨j0,?_⟩;rw [hh3,ae (fun cc=>by rw [←cc,k8] at hs;cases hs),ae (fun cc=>by rw [←cc,k6] at hs;cases hs)]
  ·obtain ⟨P6,P8,h2,h3,hP6,hP8,hh3,l2,gs,g1,g2,fr2,s6,s8,d6,d8⟩:=sv ZT [N64 F.code,N64 F.fat] rfl rfl rfl rfl
   obtain ⟨m1,m2⟩:=fin (x:=.bot) h3 hh3;have hp2:=(fr2 p p6).trans hp';rw [←hP6,←hP8];have ltl: ∀(k:Nat) (a:Int) (k':Nat) (b:Int),ltL (ag h1) [.int k a,.int k' b]=true:=fun _ _ _ _=>rfl
   have ZT':ZT=[.int 18446744073709551615 0,.bool false,.aa,.aa]:=rfl;rw [ZT'] at s6 d6;rw [n64,n64] at s8 d8;simp only [sy,A7,seval,w9,xg,okc,decide_eq_false hc,aed,jx,lj,jZ,kK,hp',hp2,n64,B5,BF,BV,C1,s6,s8,g1,g2,gs,nj,o1,sH,sG,pF,pf,sI,ep,eM,ltp,lti,CY,ja,adT,abB,d6,d8,ltl];exact Ends.mk ⟨m1,m2,stp,.inl ⟨hc,rfl⟩⟩
 obtain ⟨stp,y,sl,st,ct,cl,QQ,hp,o2,o3,ok,o4,o5⟩:=R.ex;have hp':=hp;unfold rdL at hp'
 by_cases h0:s.code=0
 ·by_cases hr:s.at_<c.data.length
  ·have g:decide ((s.at_:Int)<(c.data.length:Int))=true:=by rw [decide_eq_true_iff];omega
   have e:s.rest c=s.cd 216 s.at_:=if_pos ⟨h0,hr⟩;rw [e] at hst ⊢;simp only [sy,A7,seval,rH,okc,decide_eq_true h0,hp',n64,len,g];refine cy (gD R 216 s.at_ (f+2)).call ?_;rintro x h1 ⟨rfl,R1,n1,f1⟩;exact A h1 _ _ R1 n1 f1 (fun e=>by rw [(jR s 216 s.at_).1];exact hst e)
  ·have g:decide ((s.at_:Int)<(c.data.length:Int))=false:=by rw [decide_eq_false_iff_not];omega
   have e:s.rest c=s:=if_neg fun cc=>hr cc.2
   rw [e] at hst ⊢;simp only [sy,A7,seval,rH,okc,decide_eq_true h0,hp',n64,len,g];exact A h _ _ R rfl (fun i _=>rfl) hst
 ·have e:s.rest c=s:=if_neg fun cc=>h0 cc.1
  rw [e] at hst ⊢;simp only [sy,A7,seval,rH,okc,decide_eq_false h0];exact A h _ _ R rfl (fun i _=>rfl) hst
end
section
variable {mx:Int} {m:Nat} {K:RC} {kd:Nat→Nat} {h:AH} {p:Nat} {c:PC} {s:PR}
theorem aet (σ:List AV) (h:AH) (b:Option Blk) (k:Tr→Option Rs):sMk σ h (fun h=>some (.vh (.pto (List.length h) 0) (h++[b]))) k=k ⟨σ,h,.pto h.length 0,h++[b]⟩:=pG (v:=fun n=>.pto n 0) fun h=>rfl
theorem avG (σ:List AV) (h:AH) (z:AV) (n:Nat) (hn:n≤1000000) (k:Tr→Option Rs):sMk σ h (fun h=>adz 1 8 [z] (.int 9223372036854775807 (n:Int)) (.int 9223372036854775807 (n:Int)) h kVH) k=k ⟨σ,h,.slo h.length 0 n n 1 true,h++[some (.cells (nv [z] n) 0)]⟩:=pG (v:=fun m=>.slo m 0 n n 1 true) fun h=>by
 show bq (and (and (Nat.beq _ _) (Nat.beq _ _)) (and (Nat.ble n n) (and (Nat.ble (Nat.mul 8 n) 1099511627776) (Nat.ble n 1099511627776)))) (kVH (.slo (ag h) 0 n n 1 true) (av h [some (.cells (nv [z] n) 0)])) none=_;rw [lJ,cq,cq,cq,decide_eq_true rfl,decide_eq_true (A9 _),decide_eq_true (show Nat.mul 8 n≤1099511627776 by show 8*n≤_;omega),decide_eq_true (show n≤1099511627776 by omega),ah,aV];rfl
theorem aww (σ:List AV) (h:AH) (z:List AV) (k:Tr→Option Rs):sMk σ h (fun h=>adz 2 16 z (.int 9223372036854775807 0) (.int 9223372036854775807 0) h kVH) k=k ⟨σ,h,.slo h.length 0 0 0 2 true,h++[some (.cells [] 0)]⟩:=pG (v:=fun m=>.slo m 0 0 0 2 true) fun h=>by
 show kVH (.slo (ag h) 0 0 0 2 true) (av h [some (.cells [] 0)])=_;rw [ah,aV];rfl
theorem auX (σ:List AV) (h:AH) (k:Tr→Option Rs):sMk σ h (fun h=>fA 4 1 [.int 18446744073709551615 0,.bool false,.aa,.aa] [(0,.agg [.int 18446744073709551615 0,.bool false,.aa,.aa])] h kVH) k=k ⟨σ,h,.slo h.length 0 1 1 4 true,h++[some (.cells ZT 0)]⟩:=pG (v:=fun m=>.slo m 0 1 1 4 true) fun h=>by rw [ady];rfl
theorem arJ (σ:List AV) (h:AH) (y:Nat) (cs:List AV) (hp:(AV.agg cs).nb=true) (k:Tr→Option Rs):sMk σ h (fun h=>fQ y (.agg cs) h kVH) k=k ⟨σ,h,.pto h.length 0,h++[some (.cells cs y)]⟩:=pG (v:=fun n=>.pto n 0) fun h=>by rw [dK,hp];rfl
noncomputable def hidS (ih:List Nat) (o:Option Tr):List Nat:=Option.rec (motive:=fun _=>List Nat) ih (fun r=>bq (Nat.beq (ag r.h') (ag r.h)) ih (ag r.h::ih)) o
theorem an3 (tr:List Tr):dy tr []=[]:=rfl
theorem arA (tr:List Tr) (j:Nat) (l:List Nat):dy tr (j::l)=hidS (dy tr l) (dQ tr j):=rfl
theorem alQ (ih:List Nat) (σ:List AV) (h:AH) (v:AV) (b:Option Blk):hidS ih (some ⟨σ,h,v,h++[b]⟩)=h.length::ih:=by
 show bq (Nat.beq (ag (h++[b])) (ag h)) ih (ag h::ih)=_;rw [lJ,ah,ah,decide_eq_false (by simp)];rfl
theorem asV {place:Nat→Option (Nat×Nat)} {P0 N1 N2 P3 P4 tb v1 i0 i1 i2 sl sm st:AV} (f0:place 0=some (0,4)) (f1:place 1=some (4,1)) (f2:place 2=some (5,1)) (f3:place 3=some (6,1)) (f4:place 4=some (7,3)) (f9:place 9=some (14,1)) (f10:place 10=some (15,1)) (f11:place 11=some (16,1))
 (h4:P4.nb=true∧P4.cells=[P4]) (htb:tb.nb=true∧tb.cells=[tb]) (hv:v1.nb=true∧v1.cells=[v1]) (hsl:sl.nb=true∧sl.cells=[sl]) (hsm:sm.nb=true∧sm.cells=[sm]) (hst:st.nb=true∧st.cells=[st]) (h:AH) (κ:Ka):
 dX place [.aa,.int 9223372036854775807 0,.int 9223372036854775807 0,.int 9223372036854775807 0,.aa,.nil,.aa,.int 9223372036854775807 0,.int 9223372036854775807 0,.int 9223372036854775807 0,.int 9223372036854775807 0,.int 9223372036854775807 0,.int 9223372036854775807 0,.int 9223372036854775807 0,.aa,.aa,.aa,.aa,.aa,.aa,.int 9223372036854775807 0,.int 9223372036854775807 0]
  [(0,.agg [P0,N1,N2,P3]),(1,P4),(2,tb),(3,v1),(4,.agg [i0,i1,i2]),(9,sl),(10,sm),(11,st)] h κ=κ (.agg [P0,N1,N2,P3,P4,tb,v1,i0,i1,i2,.int 9223372036854775807 0,.int 9223372036854775807 0,.int 9223372036854775807 0,.int 9223372036854775807 0,sl,sm,st,.aa,.aa,.aa,.int 9223372036854775807 0,.int 9223372036854775807 0]) h:=by
 refine cZ ?_;simp only [aal,aaW,f0,f1,f2,f3,f4,f9,f10,f11,h4.1,h4.2,htb.1,htb.2,hv.1,hv.2,hsl.1,hsl.2,hsm.1,hsm.2,hst.1,hst.2]
 kernel_rfl
structure xj (h:AH) (rp P0 P3 P4:AV) (ns:Nat):Prop where
 nil: ∀(h':AH) (κ:Ka),aM rp h' κ=κ rp h'
 ld0: ∃M,(∀(h':AH) (κ:Ka),aj 0 rp h' κ=κ M h')∧ ∀h',(∀i,i<h.length→ab h' i=ab h i)→ ∀κ:Ka,aF 4 M h' κ=κ (.agg [P0,N64 ns,N64 0,P3]) h'
 ld4: ∃M,(∀(h':AH) (κ:Ka),aj 4 rp h' κ=κ M h')∧ ∀h',(∀i,i<h.length→ab h' i=ab h i)→ ∀κ:Ka,ao M h' κ=κ P4 h'
theorem xj.pure (h:AH) (P0 P3 P4 P5:AV) (ns:Nat):xj h (.ptp [P0,N64 ns,N64 0,P3,P4,P5] 0) P0 P3 P4 ns:=
 ⟨fun h' κ=>rfl,⟨.ptp [P0,N64 ns,N64 0,P3,P4,P5] 0,fun h' κ=>rfl,fun h' _ κ=>rfl⟩,⟨.ptp [P0,N64 ns,N64 0,P3,P4,P5] 4,fun h' κ=>rfl,fun h' _ κ=>rfl⟩⟩
theorem xj.blk {h:AH} {br yr:Nat} {P0 P3 P4 P5:AV} {ns:Nat} (hb:ab h br=some (.cells [P0,N64 ns,N64 0,P3,P4,P5] yr)):xj h (.pto br 0) P0 P3 P4 ns:=
 ⟨fun h' κ=>rfl,⟨.pto br 0,fun h' κ=>rfl,fun h' f κ=>by rw [jJ,f br (aJ hb),hb];rfl⟩,⟨.pto br 4,fun h' κ=>rfl,fun h' f κ=>by rw [lE,f br (aJ hb),hb];rfl⟩⟩
def PR.init (ns:Nat):PR:=⟨0,0,0,List.replicate ns 0,[.nd 0 false [] []],[],[],0,0⟩
theorem aia {rp P0 P3 P4 v1:AV} {ns inp dep tok n M:Nat} {data:List Nat} {P:List PS} {t:PR} (hb:xj h rp P0 P3 P4 ns)
 (h4:P4.nb=true∧P4.cells=[P4]) (hv:v1.nb=true∧v1.cells=[v1]) (hpl:aO [P0,N64 ns,N64 0,P3]=true) (D:wJ h.length h v1 (aI data)) (hd: ∀b∈data,b<256) (hdl:data.length≤1000000) (hin:data.length≤inp∧inp≤1000000000000) (hns:ns≤1000000)
 (hP:P.length≤1000000) (hM: ∀q∈P,q.ways.length≤M) (A: ∀i q,P[i]? =some q→qm h.length h P0 i q) (r:bF ⟨data,dep,tok⟩ P 0 (PR.init ns) t n) (hat:t.at_≤1000000000) (hst:(t.rest ⟨data,dep,tok⟩).code=0→ ∃n b d t0 ks,t.stack=[.nd n b d (t0::ks)]) (f:Nat):
 aL (ScR h.length h (t.rest ⟨data,dep,tok⟩)) ((rl (CL mx) (f+n+M+110)).run 89 [rp,v1,.agg [N64 inp,N64 dep,N64 tok]] h):=by
 refine aL.runs (n:=f+n+M+109) (ank mx _ _ _ _ _ _) ?_;obtain ⟨nil,⟨M0,mv0,ld0⟩,⟨M4,mv4,ld4⟩⟩:=hb;have hb3: ∀(A B C:Option Blk) (κ:Ka),aF 4 M0 (h++[A]++[B]++[C]) κ=κ (.agg [P0,N64 ns,N64 0,P3]) (h++[A]++[B]++[C]):=fun A B C κ=>ld0 _ (fun i hi=>by
  rw [ak (by rw [A7,A7];omega),ak (by rw [A7];omega),ak hi]) κ
 have st3: ∀(A B C:Option Blk) (y:Nat) (κ:Ka),ay 4 (.pto (h.length+1+1+1) 0) (.agg [P0,N64 ns,N64 0,P3]) (h++[A]++[B]++[C]++[some (.cells [.aa,.int 9223372036854775807 0,.int 9223372036854775807 0,.int 9223372036854775807 0] y)]) κ=κ (.tup []) (h++[A]++[B]++[C]++[some (.cells [P0,N64 ns,N64 0,P3] y)]):=fun A B C y κ=>by
  have e:=bD (h:=h++[A]++[B]++[C]) (n:=4) (Z:=[.aa,.int 9223372036854775807 0,.int 9223372036854775807 0,.int 9223372036854775807 0]) (y:=y) (κ:=κ) (E:=[P0,N64 ns,N64 0,P3]) rfl rfl hpl;have l:(h++[A]++[B]++[C]).length=h.length+1+1+1:=by simp
  rwa [l] at e
 simp only [sy,A7,seval,st3,aiW,dK,show (AV.agg [N64 inp,N64 dep,N64 tok]).nb=true from rfl,show (AV.agg [N64 inp,N64 dep,N64 tok]).cells=[N64 inp,N64 dep,N64 tok] from rfl,eB,nil,mv0,hb3,BV,C1,Br,CK,B5,BF,List.drop_nil,Bx,hpl,decide_true];obtain ⟨H,hH⟩: ∃H:AH,H=h++[some (Blk.cells [N64 inp,N64 dep,N64 tok] (38+1))]++[some (Blk.cells [AV.int 18446744073709551615 0,AV.bool false,AV.aa,AV.aa] (67+1))]++[some (Blk.cells [AV.int 9223372036854775807 0,AV.int 9223372036854775807 0] (32+1))]++[some (Blk.cells [P0,N64 ns,N64 0,P3] (280+1))]:=⟨_,rfl⟩;have eq0:h++[some (Blk.cells [N64 inp,N64 dep,N64 tok] (38+1))]++[some (Blk.cells [AV.int 18446744073709551615 0,AV.bool false,AV.aa,AV.aa] (67+1))]++[some (Blk.cells [AV.int 9223372036854775807 0,AV.int 9223372036854775807 0] (32+1))]++[some (Blk.cells [P0,N64 ns,N64 0,P3] (280+1))]=H:=hH.symm;have lH:H.length=h.length+4:=by rw [hH];simp
 have x0:ab H h.length=some (.cells [N64 inp,N64 dep,N64 tok] (38+1)):=by rw [hH,ak (by simp),ak (by simp),ak (by simp),aD]
 have x1:ab H (h.length+1)=some (.cells [AV.int 18446744073709551615 0,AV.bool false,AV.aa,AV.aa] (67+1)):=by
  rw [hH,ak (by simp),ak (by simp)]
  have:=aD (h++[some (Blk.cells [N64 inp,N64 dep,N64 tok] (38+1))]) (some (Blk.cells [AV.int 18446744073709551615 0,AV.bool false,AV.aa,AV.aa] (67+1)))
  rwa [A7] at this
 have x2:ab H (h.length+1+1)=some (.cells [AV.int 9223372036854775807 0,AV.int 9223372036854775807 0] (32+1)):=by
  rw [hH,ak (by simp)]
  have:=aD (h++[some (Blk.cells [N64 inp,N64 dep,N64 tok] (38+1))]++[some (Blk.cells [AV.int 18446744073709551615 0,AV.bool false,AV.aa,AV.aa] (67+1))]) (some (Blk.cells [AV.int 9223372036854775807 0,AV.int 9223372036854775807 0] (32+1)))
  rwa [A7,A7] at this
 have x3:ab H (h.length+1+1+1)=some (.cells [P0,N64 ns,N64 0,P3] (280+1)):=by
  rw [hH]
  have:=aD (h++[some (Blk.cells [N64 inp,N64 dep,N64 tok] (38+1))]++[some (Blk.cells [AV.int 18446744073709551615 0,AV.bool false,AV.aa,AV.aa] (67+1))]++[some (Blk.cells [AV.int 9223372036854775807 0,AV.int 9223372036854775807 0] (32+1))]) (some (Blk.cells [P0,N64 ns,N64 0,P3] (280+1)))
  rwa [A7,A7,A7] at this
 have xo: ∀i,i<h.length→ab H i=ab h i:=fun i hi=>by
  rw [hH,ak (by simp;omega),ak (by simp;omega),ak (by simp;omega),ak hi]
 rw [eq0];clear eq0 hH;have xb: ∀κ:Ka,ao M4 H κ=κ P4 H:=fun κ=>ld4 H xo κ
 have bl1: ∀(T:Option Blk) (i:Nat),i<H.length→ab (dt [H.length] (H++[T])) i=ab H i:=fun T i hi=>by
  rw [fH,if_neg (by simp;omega),ak hi]
 have bl2: ∀(T U:Option Blk) (i:Nat),i<H.length→ab (dt [H.length,H.length+1] (H++[T]++[U])) i=ab H i:=fun T U i hi=>by
  rw [fH,if_neg (by simp;omega),ak (by simp;omega),ak hi]
 have q1: ∀T:Option Blk,ab (dt [H.length] (H++[T])) h.length=some (.cells [N64 inp,N64 dep,N64 tok] (38+1)):=fun T=>(bl1 T _ (by omega)).trans x0
 have q3: ∀T:Option Blk,ab (dt [H.length] (H++[T])) (h.length+1+1+1)=some (.cells [P0,N64 ns,N64 0,P3] (280+1)):=fun T=>(bl1 T _ (by omega)).trans x3
 have q4: ∀T U:Option Blk,ab (dt [H.length,H.length+1] (H++[T]++[U])) (h.length+1+1+1)=some (.cells [P0,N64 ns,N64 0,P3] (280+1)):=fun T U=>(bl2 T U _ (by omega)).trans x3
 have mx0:max (0:Int) (inp:Int)=(inp:Int):=by omega
 have capb: ∀(a b c:Int) (h:AH) (κ:Ka),dX (placeOf (CL mx) [(0,3),(1,3),(2,3)]) [.int 9223372036854775807 0,.int 9223372036854775807 0,.int 9223372036854775807 0] [(0,.int 9223372036854775807 a),(1,.int 9223372036854775807 b),(2,.int 9223372036854775807 c)] h κ=κ (.agg [.int 9223372036854775807 a,.int 9223372036854775807 b,.int 9223372036854775807 c]) h:=fun a b c h κ=>cZ (by kernel_rfl)
 have mkl:=fun σ h z k=>avG σ h z ns hns k
 have mkb:=fun σ h y cs k=>arJ σ h y cs rfl k
 simp only [sy,A7,seval,aib,jx,jZ,nil,mv4,x3,xb,n64,BV,C1,Br,CK,B5,BF,aet,aww,auX,mkl,mkb,an3,arA,alQ,bI,BA,B8,q1,q3,q4,max_eq,mx0,capb,kK,show ((0:Nat):Int)=0 from rfl,decide_true];rw [asV (place:=placeOf (CL mx) _) ?_ ?_ ?_ ?_ ?_ ?_ ?_ ?_ h4 ?_ hv ?_ ?_ ?_]
 rotate_left
 all_goals first|kernel_rfl|exact ⟨rfl,rfl⟩|skip
 have nbA: ∀cs:List AV,(AV.agg cs).nb=true:=fun _=>rfl
 have ceA: ∀cs:List AV,(AV.agg cs).cells=cs:=fun _=>rfl
 simp only [sy,A7,seval,jx,jZ,nbA,ceA,aet,ja];obtain ⟨T,hT⟩: ∃T:Option Blk,T=some (Blk.cells xX (116+1)):=⟨_,rfl⟩;rw [←hT];clear hT;have rdl:([P0,AV.int 9223372036854775807 ↑ns,AV.int 9223372036854775807 0,P3,P4,AV.pto (List.length H) 0,v1,AV.int 9223372036854775807 ↑inp,AV.int 9223372036854775807 ↑dep,AV.int 9223372036854775807 ↑tok,AV.int 9223372036854775807 0,AV.int 9223372036854775807 0,AV.int 9223372036854775807 0,AV.int 9223372036854775807 0,AV.slo (List.length H+1) 0 ns ns 1 true,AV.slo (List.length H+1+1) 0 0 0 2 true,AV.slo (List.length H+1+1+1) 0 1 1 4 true,AV.aa,AV.aa,AV.aa,AV.int 9223372036854775807 0,AV.int 9223372036854775807 0]:List AV)=
  rdL ⟨P0,N64 ns,N64 0,P3,P4,.pto H.length 0,v1,inp,.slo (H.length+1+1) 0 0 0 2 true⟩ ⟨data,dep,tok⟩ (PR.init ns) 0 (AV.slo (List.length H+1) 0 ns ns 1 true) (AV.slo (List.length H+1+1+1) 0 1 1 4 true) .aa .aa:=rfl
 rw [rdl];clear rdl
 generalize hK:(⟨P0,N64 ns,N64 0,P3,P4,.pto H.length 0,v1,inp,.slo (H.length+1+1) 0 0 0 2 true⟩:RC)=KK
 have kP:KK.p0=P0:=by rw [←hK]
 have kv:KK.dv=v1:=by rw [←hK]
 have ki:KK.inp=inp:=by rw [←hK]
 clear hK
 generalize hS:(some (Blk.cells (nv [AV.int 18446744073709551615 0] ns) 0))=SB
 generalize hR:some (Blk.cells (rdL KK ⟨data,dep,tok⟩ (PR.init ns) 0 (AV.slo (List.length H+1) 0 ns ns 1 true) (AV.slo (List.length H+1+1+1) 0 1 1 4 true) .aa .aa) (289+1))=RB
 obtain ⟨H5,h5⟩: ∃H5:AH,H5=H++[T]++[SB]++[some (Blk.cells [] 0)]++[some (Blk.cells ZT 0)]++[RB]:=⟨_,rfl⟩;rw [←h5];have l5:H5.length=H.length+5:=by rw [h5];simp
 have y1:ab H5 (H.length+1)=SB:=by
  rw [h5,ak (by simp),ak (by simp),ak (by simp)]
  have:=aD (H++[T]) SB
  rwa [A7] at this
 have y3:ab H5 (H.length+1+1+1)=some (.cells ZT 0):=by
  rw [h5,ak (by simp)]
  have:=aD (H++[T]++[SB]++[some (Blk.cells [] 0)]) (some (Blk.cells ZT 0))
  rwa [A7,A7,A7] at this
 have y4:ab H5 (H.length+1+1+1+1)=RB:=by
  rw [h5]
  have:=aD (H++[T]++[SB]++[some (Blk.cells [] 0)]++[some (Blk.cells ZT 0)]) RB
  rwa [A7,A7,A7,A7] at this
 have yo: ∀i,i<H.length→ab H5 i=ab H i:=fun i hi=>by
  rw [h5,ak (by simp;omega),ak (by simp;omega),ak (by simp;omega),ak (by simp;omega),ak hi]
 clear h5
 let kd:Nat→Nat:=fun i=>if i=H.length+1+1+1+1 then 1 else if i=H.length+1 then 2 else if i=H.length+1+1+1 then 3 else 0
 have k1:kd (H.length+1+1+1+1)=1:=if_pos rfl;have k2:kd (H.length+1)=2:=by show (if H.length+1=H.length+1+1+1+1 then 1 else if H.length+1=H.length+1 then 2 else _)=2;rw [if_neg (by omega),if_pos rfl]
 have k3:kd (H.length+1+1+1)=3:=by show (if H.length+1+1+1=H.length+1+1+1+1 then 1 else if H.length+1+1+1=H.length+1 then 2 else if H.length+1+1+1=H.length+1+1+1 then 3 else 0)=3;rw [if_neg (by omega),if_neg (by omega),if_pos rfl]
 have k0: ∀i,i<H.length→kd i=0:=fun i hi=>by show (if i=H.length+1+1+1+1 then 1 else if i=H.length+1 then 2 else if i=H.length+1+1+1 then 3 else 0)=0;rw [if_neg (by omega),if_neg (by omega),if_neg (by omega)]
 have R5:RS h.length KK kd H5 (H.length+1+1+1+1) ⟨data,dep,tok⟩ (PR.init ns):=by
  refine ⟨⟨0,289+1,.slo (H.length+1) 0 ns ns 1 true,.slo (H.length+1+1+1) 0 1 1 4 true,.aa,.aa,[ZT],by rw [y4,←hR],⟨?_,.inr ⟨H.length+1,ns,true,[],0,k2,?_,?_,?_,?_⟩⟩,⟨?_,.inr ⟨H.length+1+1+1,1,true,[],0,k3,⟨rfl,by rw [y3];rfl,A9 _,rfl⟩⟩⟩,⟨?_,trivial⟩,⟨by simp [PR.init],.inl ⟨rfl,rfl⟩⟩,⟨by simp [PR.init],.inl ⟨rfl,rfl⟩⟩⟩,k1,fun i hi=>k0 i (by omega),by omega,?_,by rw [ki];exact hin,hd,hdl⟩
  ·intro r hr
   obtain ⟨x,_,rfl⟩:=Cg.1 hr;rfl
  ·simp [PR.init]
  ·rw [y1,←hS]
   have:nv [AV.int 18446744073709551615 0] ns=((PR.init ns).slots.map fun n=>[U64 n]).flatten:=by
    rw [←rV,gL];show _=(List.map (fun n=>[U64 n]) (List.replicate ns 0)).flatten;rw [List.map_replicate];rfl
   rw [this,Bx]
  ·simp [PR.init]
  ·rw [mb (z:=1) fun r hr=>by
    obtain ⟨x,_,rfl⟩:=Cg.1 hr;rfl]
   simp [PR.init]
  ·intro r hr
   obtain rfl:r=ZT:=by simpa using hr
   rfl
  ·unfold eX
   exact ⟨.aa,.aa,rfl,.inl ⟨rfl,rfl⟩,.inl ⟨rfl,rfl⟩⟩
  ·rw [kv]
   exact D.frm fun i hi=>(yo i (by omega)).trans (xo i hi)
 have yx: ∀i,i<h.length→ab H5 i=ab h i:=fun i hi=>(yo i (by omega)).trans (xo i hi)
 refine wEq (aiH ..) ?_;refine wEq (ahQ ..) ?_;refine alY (n0:=H.length) (M:=M) hP hM (by omega) r kd H5 (f+n+M+109) _ (by omega) R5 (fun i q e=>by rw [kP];exact (A i q e).frm yx) (by omega) fun h' i' v46 nx=>?_
 obtain ⟨kd',R',l',f'⟩:=nx;have z1:=f' (h.length+1) (by omega) (k0 _ (by omega));have z2:=f' (h.length+1+1) (by omega) (k0 _ (by omega));have se:=arU (mx:=mx) (n0:=h.length) (b6:=h.length+1) (b8:=h.length+1+1) (lp:=(rl (CL mx) (f+n+M+109)).lp) (v0:=rp) (v2:=.agg [.int 9223372036854775807 (inp:Int),.int 9223372036854775807 (dep:Int),.int 9223372036854775807 (tok:Int)]) (v5:=.pto h.length 0) (v7:=.int 9223372036854775807 0) (v9:=.pto (h.length+1+1+1) 0) (v11:=.int 9223372036854775807 i') (v46:=v46) (v67:=.bot) (v76:=.bot) R' hat (z1.1.trans ((yo _ (by omega)).trans x1)) rfl (z2.1.trans ((yo _ (by omega)).trans x2)) rfl z1.2 z2.2 (by omega) (by omega) (by omega) (by omega) (fun i hi=>(f' i (by omega) (k0 i (by omega))).2) hst (f+n+M+106);rw [kv] at se;obtain ⟨x,h2,e,s1,s2,s3⟩:=se;exact ⟨x,h2,e,s1,fun i hi=>(s2 i hi).trans ((f' i (by omega) (k0 i (by omega))).1.trans (yx i hi)),s3⟩
end
end Go.Proofs.YtemmgalfdmnkoaaGreatDoor
