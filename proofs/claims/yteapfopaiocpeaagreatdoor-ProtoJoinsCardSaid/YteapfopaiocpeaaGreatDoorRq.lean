/- Package proto's Read: what it answers. -/
import Derived.Test.YteapfopaiocpeaaGreatDoorRo
namespace Go.Proofs.YteapfopaiocpeaaGreatDoor
set_option linter.unusedSimpArgs false
set_option linter.unusedVariables false
set_option linter.unnecessarySimpa false
set_option linter.defProp false
noncomputable section
section
set_option maxRecDepth 100000
variable (mx:Int) (run:Run) (lp:Lp) (κn:Kt) (κx:Ex→Kt) (h:AH) (v0:AV)
end
end
def adm:List Nat:=[112,114,111,116,111]
structure Fm (h:AH):Prop where
 f: ∃y,ae h 6=some (.cells [.pto 1 0] y)
 s: ∃ov y,ae h 1=some (.cells [.mpo 0,ov] y)
 m:ae h 0=some (.map [.str adm] [.pto 3 0])
def aqo (h:AH) (S:Nat→Prop) (v:AV) (L:List dm):Prop:=∃rows,OwR h S 4 v rows∧rows.length=L.length∧ ∀(i:Nat) r x,rows[i]? =some r→L[i]? =some x→am3 h S r x
def zl (h:AH) (data:List Nat) (r:AV) (h':AH):Prop:=Fx 3 h h'∧It h' 3 dB fA∧match c7 (data.length+1) data with
 |none=>∃e a:Nat,e≠0∧r= .tup [.nils,.agg [N64 e,N64 a]]
 |some L=>∃v,r= .tup [v,.agg [N64 0,N64 0]]∧aqo h' (fun b=>h.length≤b) v L
section
variable {mx:Int} {h h' h1:AH} {m:Nat} {S:Nat→Prop} {Q:Option Rs→Prop} {κn:Kt} {κx:Ex→Kt}
theorem Fm.of (F:Fm h) (l:6<h.length) (e: ∀i,i<h.length→i≠3→ae h' i=ae h i):Fm h':=by
 obtain ⟨⟨y,f⟩,⟨ov,ys,s⟩,m⟩:=F
 exact ⟨⟨y,by rw [e 6 l (by decide)];exact f⟩,⟨ov,ys,by rw [e 1 (by omega) (by decide)];exact s⟩,by rw [e 0 (by omega) (by decide)];exact m⟩
theorem aiV:Fm HN:=⟨⟨66+1,by kernel_rfl⟩,⟨.slo 5 0 1 1 1 false,109+1,by kernel_rfl⟩,by kernel_rfl⟩
theorem Fm.lt (F:Fm h):6<h.length:=by
 obtain ⟨⟨y,f⟩,_,_⟩:=F
 exact aO f
theorem afr (F:Fm h) (f:Nat):aG (fun r h'=>r= .pto 3 0∧h'=h) ((rl (CL mx) (f+1)).run 44 [.pto 1 0,.str adm] h):=by
 refine aG.runs (n:=f) (alX mx _ _ _ _ _) ?_
 obtain ⟨⟨y,e1⟩,⟨ov,ys,e2⟩,e3⟩:=F
 have lk: ∀κ:Ka,ni ⟨.string,1,16,[.str []],false,true⟩ ⟨(.pointer 138),1,8,[.nil],false,false⟩ false (.mpo 0) (.str adm) h κ=κ (.pto 3 0) h:=by
  intro κ
  unfold ni mapOf
  simp only [e3]
  rfl
 simp only [sy,List.length_append,Nat.reduceAdd,Nat.reduceMul,Nat.reduceSub,Nat.reduceLeDiff,Nat.reduceEqDiff,Nat.reduceLT,reduceIte,aqP,e2,lk]
 exact Ends.mk ⟨rfl,rfl⟩
theorem aiO (F:Fm h) (f:Nat):aD (CL mx) (rl (CL mx) (f+2)).run 23 [.pto 6 0] h=some (.pto 3 0,h):=by
 obtain ⟨⟨y,e1⟩,_,_⟩:=id F
 have g:aG (fun r h'=>r= .pto 3 0∧h'=h) ((rl (CL mx) (f+2)).run 23 [.pto 6 0] h):=by
  refine aG.runs (n:=f+1) (aix mx _ _ _ _) ?_
  simp only [sy,List.length_append,Nat.reduceAdd,Nat.reduceMul,Nat.reduceSub,Nat.reduceLeDiff,Nat.reduceEqDiff,Nat.reduceLT,reduceIte,arw,e1]
  refine bE (afr (mx:=mx) F f).call ?_
  rintro r h' ⟨rfl,e⟩
  exact Ends.mk ⟨rfl,e⟩
 obtain ⟨r,h2,el,er,eh⟩:=aG.call (C:=CL mx) g
 rw [er,eh] at el;exact el
def mG:AV:=.agg [N64 1048576,N64 400,N64 1048576]
theorem akR (f:Nat):aD (CL mx) (rl (CL mx) (f+1)).run 8 [] h=some (mG,h):=
 acQ (r:=mG) (h1:=[some (.cells [N64 1048576,N64 400,N64 1048576] (33+1))]) (by kernel_rfl) rfl (by kernel_rfl) (by kernel_rfl) rfl (by kernel_rfl)
theorem apN (b:List Nat) (x:dm) (r:List Nat) (hb:b≠[]) (hd: ∀y∈b,y<256) (e:fg b=some (x,r)):ROk x∧r.length<b.length∧ ∀y∈r,y<256:=by
 have mem: ∀(n:Nat),∀y∈b.drop n,y<256:=fun n y hy=>hd y (List.mem_of_mem_drop hy)
 unfold fg at e
 by_cases h:(bz 0 0 b).1≠0∨(bz 0 0 b).2.1<8∨4294967295<(bz 0 0 b).2.1
 ·rw [if_pos h] at e;cases e
 rw [if_neg h] at e
 obtain ⟨_,m1,m2⟩:=gM b 0 0 (by decide) (by decide) (by omega)
 obtain ⟨k,hk⟩: ∃k,k=(bz 0 0 b).2.1:=⟨_,rfl⟩
 obtain ⟨m,hm⟩: ∃m,m=(bz 0 0 b).2.2:=⟨_,rfl⟩
 rw [←hk] at e h
 rw [←hm] at e m1 m2
 have hl:(b.drop m).length<b.length:=by rw [List.length_drop];have:=List.length_pos_iff.2 hb;omega
 unfold kQ at e
 by_cases k0:k%8=0
 ·rw [if_pos k0] at e
  by_cases hu:(bz 0 0 (b.drop m)).1≠0
  ·rw [if_pos hu] at e;cases e
  rw [if_neg hu] at e
  obtain ⟨u1,u2,u3⟩:=gM (b.drop m) 0 0 (by decide) (by decide) (by omega)
  cases e
  exact ⟨⟨by show 0<8;omega,by show k/8*8+0≤_;omega,u1,fun _=>rfl,fun c=>by cases c⟩,by rw [List.length_drop];omega,by rw [List.drop_drop];exact mem _⟩
 rw [if_neg k0] at e
 by_cases k1:k%8=1
 ·rw [if_pos k1] at e
  by_cases hu:(b.drop m).length<8
  ·rw [if_pos hu] at e;cases e
  rw [if_neg hu] at e
  cases e
  have hn:=qC (l:=(b.drop m).take 8) (fun y hy=>mem m y (List.mem_of_mem_take hy)) true
  rw [show ((b.drop m).take 8).length=8 by rw [List.length_take];omega] at hn
  exact ⟨⟨by show 1<8;omega,by show k/8*8+1≤_;omega,hn,fun _=>rfl,fun c=>by cases c⟩,by rw [List.length_drop];omega,by rw [List.drop_drop];exact mem _⟩
 rw [if_neg k1] at e
 by_cases k2:k%8=2
 ·rw [if_pos k2] at e
  by_cases hu:(bz 0 0 (b.drop m)).1≠0∨(b.drop m).length-(bz 0 0 (b.drop m)).2.2<(bz 0 0 (b.drop m)).2.1
  ·rw [if_pos hu] at e;cases e
  rw [if_neg hu] at e
  cases e
  exact ⟨⟨by show 2<8;omega,by show k/8*8+2≤_;omega,by show 0<18446744073709551616;omega,fun c=>absurd rfl c,fun _=>rfl⟩,by rw [List.length_drop,List.length_drop];omega,by rw [List.drop_drop,List.drop_drop];exact mem _⟩
 rw [if_neg k2] at e
 by_cases k5:k%8=5
 ·rw [if_pos k5] at e
  by_cases hu:(b.drop m).length<4
  ·rw [if_pos hu] at e;cases e
  rw [if_neg hu] at e
  cases e
  have hn:=qC (l:=(b.drop m).take 4) (fun y hy=>mem m y (List.mem_of_mem_take hy)) true
  rw [show ((b.drop m).take 4).length=4 by rw [List.length_take];omega] at hn
  exact ⟨⟨by show 5<8;omega,by show k/8*8+5≤_;omega,Nat.lt_trans hn (by decide),fun _=>rfl,fun c=>by cases c⟩,by rw [List.length_drop];omega,by rw [List.drop_drop];exact mem _⟩
 rw [if_neg k5] at e
 cases e
theorem adU: ∀(k:Nat) (b:List Nat) (L:List dm),(∀y∈b,y<256)→c7 k b=some L→(∀x∈L,ROk x)∧L.length≤b.length
 |0,b,L,hd,e=>by
  obtain rfl:[]=L:=by simpa [c7] using e
  simp
 |k+1,b,L,hd,e=>by
  unfold c7 at e
  by_cases hb:b=[]
  ·rw [if_pos hb] at e
   obtain rfl:[]=L:=by simpa using e
   simp
  rw [if_neg hb] at e
  cases e1:fg b with
  |none=>rw [e1] at e;cases e
  |some xr=>
   obtain ⟨x,r⟩:=xr
   rw [e1] at e
   cases e2:c7 k r with
   |none=>
    have:(c7 k r).map (x:: ·)=some L:=e
    rw [e2] at this;cases this
   |some L'=>
    obtain rfl:x::L'=L:=by
     have:(c7 k r).map (x:: ·)=some L:=e
     rw [e2] at this
     simpa using this
    have key:=apN b x r hb hd e1
    obtain ⟨i1,i2⟩:=adU k r L' key.2.2 e2
    exact ⟨fun y hy=>by
     rcases List.mem_cons.1 hy with rfl|hy
     ·exact key.1
     ·exact i1 y hy,by have:=key.2.1;simp;omega⟩
theorem arW:Fx 3 (HN++HZ) HR:=by
 have l1:(HN++HZ).length=12:=by kernel_rfl
 have l2:HR.length=16:=by kernel_rfl
 refine ⟨by omega,fun i hi hn=>?_⟩
 rw [l1] at hi
 match i,hi,hn with
 |0,_,_=>show ae HR 0=ae (HN++HZ) 0;kernel_rfl
 |1,_,_=>show ae HR 1=ae (HN++HZ) 1;kernel_rfl
 |2,_,_=>show ae HR 2=ae (HN++HZ) 2;kernel_rfl
 |3,_,hn=>exact absurd rfl hn
 |4,_,_=>show ae HR 4=ae (HN++HZ) 4;kernel_rfl
 |5,_,_=>show ae HR 5=ae (HN++HZ) 5;kernel_rfl
 |6,_,_=>show ae HR 6=ae (HN++HZ) 6;kernel_rfl
 |7,_,_=>show ae HR 7=ae (HN++HZ) 7;kernel_rfl
 |8,_,_=>show ae HR 8=ae (HN++HZ) 8;kernel_rfl
 |9,_,_=>show ae HR 9=ae (HN++HZ) 9;kernel_rfl
 |10,_,_=>show ae HR 10=ae (HN++HZ) 10;kernel_rfl
 |11,_,_=>show ae HR 11=ae (HN++HZ) 11;kernel_rfl
 |i+12,hi,_=>omega
theorem oU {bv:AV} {data:List Nat} (F:Fm h) (hs:h=HN∨It h 3 dB fA) (hdl:data.length≤1000) (hd: ∀b∈data,b<256) (hlt: ∀n,h.length≤n→bv.lt n=true) (hbv:bv.nb=true∧bv.cells=[bv])
 (HD: ∀h',h.length≤h'.length→(∀i,i<h.length→i≠3→ae h' i=ae h i)→uv h'.length h' bv (aS data)) (f:Nat) (hf:20000≤f):
 aG (zl h data) ((rl (CL mx) f).run 7 [.pto 6 0,bv,mG] h):=by
 obtain ⟨t,n,hn,R,hat,ht⟩:=aqf (c:=⟨data,400,1048576⟩) ⟨by show data.length≤_;omega,by show 400≤_;omega,by show 1048576≤_;omega⟩ hd (by show data.length≤_;omega) (by show 100000≤1048576;omega) (by show 20≤400;omega)
 have hn:n≤10+17*data.length:=hn
 have hat:t.at_≤data.length:=hat
 obtain ⟨g,rfl⟩: ∃g,f=g+n+4+110+10:=⟨f-n-124,by omega⟩
 have lt:=F.lt
 have hlen: ∀(h':AH) (κ:Ka),bH bv h' κ=κ (N64 data.length) h':=fun h' κ=>by
  have:=(HD h (Nat.le_refl _) fun _ _ _=>rfl).at.bH h' κ
  rwa [bW] at this
 have HS: ∀h',h.length≤h'.length→(∀i,i<h.length→i≠3→ae h' i=ae h i)→aG (ScR h'.length h' (t.rest ⟨data,400,1048576⟩)) ((rl (CL mx) (g+n+119+2)).run 72 [dB,bv,mG] h'):=fun h' l e=>by
  rw [ar7,show g+n+119+2=(g+7)+n+4+110 by omega]
  exact agu (mx:=mx) (M:=4) (P:=PP) (vW.pure h' (.slp ppC 24) (N64 0) .nils (ppR.headD .nil) 5) ⟨rfl,rfl⟩ hbv rfl (HD h' l e) hd (by omega) ⟨by omega,by decide⟩ (by decide) (by decide) (by decide) (fun i q e=>am7 i q e) R (by omega) (fun e=>by
   cases e2:c7 (data.length+1) data with
   |none=>rw [show c7 ((⟨data,400,1048576⟩:PC).data.length+1) (⟨data,400,1048576⟩:PC).data=none from e2] at ht;exact absurd e ht
   |some L=>
    rw [show c7 ((⟨data,400,1048576⟩:PC).data.length+1) (⟨data,400,1048576⟩:PC).data=some L from e2] at ht
    exact ⟨0,false,[],_,[],ht.2⟩) (g+7)
 obtain ⟨X,hX⟩: ∃X:Blk,X=Blk.cells [N64 1048576,N64 400,N64 1048576] (33+1):=⟨_,rfl⟩
 obtain ⟨yt,hyt⟩: ∃y:Nat,y=69+1:=⟨_,rfl⟩
 obtain ⟨yf,hyf⟩: ∃y:Nat,y=27+1:=⟨_,rfl⟩
 obtain ⟨Y,hY⟩: ∃Y:Blk,Y=Blk.cells ZT yt:=⟨_,rfl⟩
 obtain ⟨Z,hZ⟩: ∃Z:Blk,Z=Blk.cells [.int 9223372036854775807 0,.int 9223372036854775807 0] yf:=⟨_,rfl⟩
 have sX:=hX;have sY:=hY;have sZ:=hZ
 rw [hyt] at sY;rw [hyf] at sZ
 simp only [Nat.reduceAdd,ZT] at sX sY sZ
 obtain ⟨H2,hH2⟩: ∃H2,H2=h++[some X]++[some Z]:=⟨_,rfl⟩
 have l1:(h++[some X]).length=h.length+1:=by simp
 have lH2:H2.length=h.length+2:=by rw [hH2];simp
 have oH2: ∀i,i<h.length→ae H2 i=ae h i:=fun i hi=>by rw [hH2,aq (by simp;omega),aq hi]
 have x2:ae H2 h.length=some X:=by rw [hH2,aq (by simp),aI]
 have z2:ae H2 (h.length+1)=some Z:=by
  have:=aI (h++[some X]) (some Z)
  rw [l1,←hH2] at this;exact this
 have F2:Fm H2:=F.of lt fun i hi _=>oH2 i hi
 refine aG.runs (n:=g+n+119+4) (ajZ mx _ _ _ _ _ _) ?_
 have e1:=aiO (mx:=mx) F2 (g+n+119+2)
 have HR:aG (fun r h'=>r= .agg [N64 0,N64 0]∧It h' 3 dB fA∧Fx 3 (H2++[some X]++[some Y]++[some Z]) h') ((rl (CL mx) (g+n+119+3)).run 45 [.pto 3 0] (H2++[some X]++[some Y]++[some Z])):=by
  rcases hs with rfl|I
  ·have e:H2++[some X]++[some Y]++[some Z]=HN++HZ:=by
    rw [hH2,hX,hY,hZ,hyt,hyf]
    simp only [List.append_assoc,List.cons_append,List.nil_append,HZ]
   rw [e]
   exact ⟨_,_,aiU (g+n+118),rfl,ash,arW⟩
  ·exact ahM (((I.of (oH2 3 (by omega))).app _).app _|>.app _) (g+n+119)
 obtain ⟨r,h3,e4,I3,F3,s3⟩:=aG.call (C:=CL mx) (ahx (mx:=mx) (F:=t.rest ⟨data,400,1048576⟩) (h:=H2) (i0:=3) (cp:=dB) (wp:=fA) (H0:=H2++[some X]++[some Y]++[some Z]) (bv:=bv) (k:=data.length) (a:=1048576) (b:=400) (c:=1048576) hlen (by omega) (g+n+119) (by rw [hX,hY,hZ,hyt,hyf]) HR fun h' l e=>HS h' (by omega) fun i hi hn=>(e i (by omega) hn).trans (oH2 i hi))
 have ld3: ∀κ:Ka,aQ 3 (.pto h.length 0) H2 κ=κ mG H2:=fun κ=>bS (n:=3) (x2.trans (by rw [hX])) rfl κ
 refine wEq (ahC ..) ?_
 rw [mG,dP]
 simp only [dC,bqT,show (AV.agg [N64 1048576,N64 400,N64 1048576]).nb=true from rfl,show (AV.agg [N64 1048576,N64 400,N64 1048576]).cells=[N64 1048576,N64 400,N64 1048576] from rfl,←sX,←sZ,l1,←hH2]
 refine wEq (afS ..) ?_
 have mva: ∀(x:AV) (h:AH),aY x h kVH=some (.vh x h):=fun _ _=>rfl
 simp only [fN,mva,e1,oE,fV,ij,Nat.le_refl,decide_true,bqT,ld3,mG,e4]
 have l3:=F3.1
 have ble3:decide (H2.length≤h3.length)=true:=by rw [decide_eq_true_iff];exact l3
 have F3':Fx 3 h h3:=Fx.trans ⟨by omega,fun i hi _=>oH2 i hi⟩ F3
 have x3:=(F3.2 h.length (by omega) (by omega)).trans x2
 have z3:=(F3.2 (h.length+1) (by omega) (by omega)).trans z2
 rw [hZ] at z3
 -- two cells more
 suffices fin: ∀(q:List AV) (e1 e2:Nat),q.length=4→aR q=true→r= .tup [.agg q,.agg [N64 e1,N64 e2]]→ ∀H6:AH,H6.length=h3.length+2→(∀i,i<h3.length→ae H6 i=ae h3 i)→ae H6 h3.length=some (.cells q yt)→ae H6 (h3.length+1)=some (.cells [N64 e1,N64 e2] yf)→
  Ends (zl h data) (kc (CL mx) (rl (CL mx) (g+n+119+4)).run (rl (CL mx) (g+n+119+4)).lp (ac9 mx) ⟨bn (.pto 6 0) bv mG (.pto h.length 0) .nils (.pto (h.length+1) 0) (.pto h3.length 0) (.pto (h3.length+1) 0) .bot .bot .bot .bot .bot .bot .bot .bot .bot .bot .bot,H6⟩ (kcE (CL mx) [.tmp 6,.cell 7 27]) (kcQ (CL mx) [.tmp 6,.cell 7 27])) by
  suffices fin2: ∀(q:List AV) (e1 e2:Nat),q.length=4→aR q=true→r= .tup [.agg q,.agg [N64 e1,N64 e2]]→Ends (zl h data) _ by
   rcases s3 with ⟨c0,e⟩|⟨c0,n,b,d,t0,ks,q0,e0,e,T⟩
   ·exact fin2 ZT _ _ rfl rfl e
   ·exact fin2 q0 0 0 T.four.1 T.four.2 e
  intro q e1 e2 q4 qp er
  have fin1:=fin q e1 e2 q4 qp er
  clear fin
  subst er
  have l3y:(h3++[some Y]).length=h3.length+1:=by simp
  obtain ⟨H4,hH4⟩: ∃H4,H4=h3++[some Y]++[some Z]:=⟨_,rfl⟩
  have lH4:H4.length=h3.length+2:=by rw [hH4];simp
  have y4:ae H4 h3.length=some (.cells ZT yt):=by rw [hH4,aq (by simp),aI,hY]
  have z4:ae H4 (h3.length+1)=some (.cells [.int 9223372036854775807 0,.int 9223372036854775807 0] yf):=by
   rw [hH4,←hZ]
   have:=aI (h3++[some Y]) (some Z)
   rwa [l3y] at this
  have o4: ∀i,i<h3.length→ae H4 i=ae h3 i:=fun i hi=>by rw [hH4,aq (by simp;omega),aq hi]
  obtain ⟨H5,hH5⟩: ∃H5,H5=H4.set h3.length (some (.cells q yt)):=⟨_,rfl⟩
  obtain ⟨H6,hH6⟩: ∃H6,H6=H5.set (h3.length+1) (some (.cells [N64 e1,N64 e2] yf)):=⟨_,rfl⟩
  have lH5:H5.length=H4.length:=by rw [hH5,List.length_set]
  have lH6:H6.length=H4.length:=by rw [hH6,List.length_set,lH5]
  have z5:ae H5 (h3.length+1)=some (.cells [.int 9223372036854775807 0,.int 9223372036854775807 0] yf):=by rw [hH5,ai (by omega)];exact z4
  have st3: ∀κ:Ka,aK 4 (.pto h3.length 0) (.agg q) H4 κ=κ (.tup []) H5:=fun κ=>by rw [hH5];exact bU y4 rfl q4 qp κ
  have st4: ∀κ:Ka,aK 2 (.pto (h3.length+1) 0) (.agg [N64 e1,N64 e2]) H5 κ=κ (.tup []) H6:=fun κ=>by rw [hH6];exact bU (n:=2) (q:=[N64 e1,N64 e2]) z5 rfl rfl rfl κ
  have ble5:decide (H4.length≤H5.length)=true:=by rw [decide_eq_true_iff];omega
  have ble6:decide (H5.length≤H6.length)=true:=by rw [decide_eq_true_iff];omega
  have gf2:cF (aj H2) H2=H2:=cT H2
  have gfh: ∀h:AH,cF (aj h) h=h:=cT
  have hltb:=hlt (aj H2) (by rw [ah];omega)
  have lta: ∀(k:Nat) (a b c:Nat),AV.lt k (.agg [N64 a,N64 b,N64 c])=true:=fun _ _ _ _=>rfl
  have ltb: ∀(k:Nat) (a b:Nat),AV.lt k (.agg [N64 a,N64 b])=true:=fun _ _ _=>rfl
  have aqA: ∀(h:AH),eO 0 (.tup [.agg q,.agg [N64 e1,N64 e2]]) h kVH=some (.vh (.agg q) h):=fun h=>by rw [iK];rfl
  have ext1: ∀(h:AH),eO 1 (.tup [.agg q,.agg [N64 e1,N64 e2]]) h kVH=some (.vh (.agg [N64 e1,N64 e2]) h):=fun h=>by rw [iK];rfl
  simp only [fN,ble3,bqT,aqA,ext1,am5,←sY,←sZ,l3y,←hH4,st3,st4,fV,ij,ble5,ble6,ji,o1,nq,mz,acZ,adb,j2,jU,mva,gf2,ld3,mG,cV,hltb,lta]
  rw [ltb]
  simp only [Bool.true_and,bqT,fB,yU]
  refine fin1 H6 (by omega) (fun i hi=>?_) ?_ ?_
  ·rw [hH6,ai (by omega),hH5,ai (by omega),o4 i hi]
  ·rw [hH6,ai (by omega),hH5];exact az (by omega) _
  ·rw [hH6];exact az (by omega) _
 intro q e1 e2 q4 qp er H6 lH6 o6 t6 f6
 have z6:=(o6 (h.length+1) (by omega)).trans z3
 have fx6:Fx 3 h H6:=Fx.trans F3' ⟨by omega,fun i hi _=>o6 i hi⟩
 have I6:It H6 3 dB fA:=I3.of (o6 3 (by omega))
 have en: ∀(H7:AH) (v6:AV) (a1 a2:Nat),Fx 3 h H7→It H7 3 dB fA→ae H7 (h.length+1)=some (.cells [N64 a1,N64 a2] yf)→(Fx 3 h H7→It H7 3 dB fA→zl h data (.tup [v6,.agg [N64 a1,N64 a2]]) H7)→ ∀v8 v9 v10 v12 v13 v14 v15 v26 v29 v30 v31 v32 v56,Ends (zl h data) (kcE (CL mx) [.tmp 6,.cell 7 27] ⟨bn (.pto 6 0) bv mG (.pto h.length 0) v6 (.pto (h.length+1) 0) v8 v9 v10 v12 v13 v14 v15 v26 v29 v30 v31 v32 v56,H7⟩):=by
  intro H7 v6 a1 a2 x1 x2 x3 x4 v8 v9 v10 v12 v13 v14 v15 v26 v29 v30 v31 v32 v56
  rw [ah4]
  have: ∀κ:Ka,aQ 2 (.pto (h.length+1) 0) H7 κ=κ (.agg [N64 a1,N64 a2]) H7:=fun κ=>bS (n:=2) x3 rfl κ
  refine wEq (this _) ?_
  exact Ends.mk (x4 x1 x2)
 refine wEq (agR ..) ?_
 refine wEq (ahz ..) ?_
 have f6':=f6
 simp only [n64] at f6'
 have ht2:match c7 (data.length+1) data with
  |none=>(t.rest ⟨data,400,1048576⟩).code≠0
  |some L=>(t.rest ⟨data,400,1048576⟩).code=0∧t.stack=[.nd 0 false [] [.nd 0 false [] (L.map qh)]]:=ht
 rcases s3 with ⟨c0,e⟩|⟨c0,n',b',d',t0,ks,q0,e0,e,T⟩
 ·have ee:e1=(t.rest ⟨data,400,1048576⟩).code:=by
   rw [er] at e
   simp [N64] at e
   omega
  have ne:e1≠0:=by rw [ee];exact c0
  have g1:decide ((e1:Int)≠0)=true:=by rw [decide_eq_true_iff];omega
  obtain ⟨H7,hH7⟩: ∃H7,H7=H6.set (h.length+1) (some (.cells [N64 e1,N64 e2] yf)):=⟨_,rfl⟩
  have lf: ∀κ:Ka,aQ 2 (.pto (h3.length+1) 0) H6 κ=κ (.agg [N64 e1,N64 e2]) H6:=fun κ=>bS (n:=2) f6 rfl κ
  have st: ∀κ:Ka,aK 2 (.pto (h.length+1) 0) (.agg [N64 e1,N64 e2]) H6 κ=κ (.tup []) H7:=fun κ=>by rw [hH7];exact bU (n:=2) (q:=[N64 e1,N64 e2]) z6 rfl rfl rfl κ
  have bl:Nat.ble (aj H6) (aj H7)=true:=by rw [bL,ah,ah,decide_eq_true_iff,hH7,List.length_set];exact Nat.le_refl _
  have none_:c7 (data.length+1) data=none:=by
   cases e2:c7 (data.length+1) data with
   |none=>rfl
   |some L=>rw [e2] at ht2;exact absurd ht2.1 c0
  simp only [sy,List.length_append,Nat.reduceAdd,Nat.reduceMul,Nat.reduceSub,Nat.reduceLeDiff,Nat.reduceEqDiff,Nat.reduceLT,reduceIte,f6',g1]
  refine wEq (afW ..) ?_
  refine wEq (lf _) ?_
  refine wEq (st _) ?_
  simp only [bl,bqT,agn,lV]
  refine en H7 .nils e1 e2 (by rw [hH7];exact Fx.adj (by omega) fx6 _) (I6.of (by rw [hH7,ai (by omega)])) (by rw [hH7];exact az (by omega) _) (fun x1 x2=>⟨x1,x2,by rw [none_];exact ⟨e1,e2,ne,rfl⟩⟩) _ _ _ _ _ _ _ _ _ _ _ _ _
 ·obtain ⟨L,hL⟩: ∃L,c7 (data.length+1) data=some L:=by
   cases e2:c7 (data.length+1) data with
   |none=>rw [e2] at ht2;exact absurd c0 ht2
   |some L=>exact ⟨L,rfl⟩
  rw [hL] at ht2
  obtain ⟨rk,lk⟩:=adU _ _ _ hd hL
  have et:t0= .nd 0 false [] (L.map qh):=by
   have rs:(t.rest ⟨data,400,1048576⟩).stack=t.stack:=by
    unfold PR.rest
    split
    ·exact (jI t 216 t.at_).1
    ·rfl
   rw [rs,ht2.2] at e0
   simp at e0
   exact e0.2.2.2.1.symm
  rw [et] at T
  have eq:q=q0∧e1=0∧e2=0:=by
   rw [er] at e
   simp [N64] at e
   exact ⟨e.1,by omega,by omega⟩
  obtain ⟨rfl,rfl,rfl⟩:=eq
  have T6:fK H6 (fun b=>h.length+2≤b) q (.nd 0 false [] (L.map qh)):=T.mono _ fun b hb hs=>⟨by omega,o6 b hb⟩
  obtain ⟨dv,kv,rfl,_,lens,kids⟩:=T6.kids
  have hk: ∀(i:Nat) (x:dm),L[i]? =some x→ajP H6 (fun b=>h.length+2≤b) kv i (qh x):=fun i x hx=>kids i _ (by rw [List.getElem?_map,hx];rfl)
  rw [List.length_map] at lens
  have g1:decide ((0:Int)≠0)=false:=by decide
  have f6'':ae H6 (h3.length+1)=some (.cells [.int 9223372036854775807 0,.int 9223372036854775807 0] yf):=f6
  simp only [sy,List.length_append,Nat.reduceAdd,Nat.reduceMul,Nat.reduceSub,Nat.reduceLeDiff,Nat.reduceEqDiff,Nat.reduceLT,reduceIte,f6'',g1,afB,agr,t6,lens]
  have z6':ae H6 (h.length+1)=some (.cells [.int 9223372036854775807 0,.int 9223372036854775807 0] yf):=z6
  refine ala (mx:=mx) (h1:=H6) (S:=fun b=>h.length+2≤b) (n1:=H6.length) rfl hk rk (by omega) (.pto 6 0) bv mG (.pto h.length 0) .nils (.pto (h.length+1) 0) (.pto h3.length 0) (.pto (h3.length+1) 0) (.bool false) L [] (g+n+119+4) H6 .nils .bot .bot .bot .bot .bot .bot [] rfl (by omega) Old.rfl OwR.nil rfl (fun i r x hr=>by simp at hr) fun H7 v10 v12 v13 v14 v15 v32 v56 rows o7 ow7 lr hr=>?_
  have o71:=o7.1
  have z7:=(o7.2 (h.length+1) (by omega)).trans z6'
  obtain ⟨H8,hH8⟩: ∃H8,H8=H7.set (h.length+1) (some (.cells [N64 0,N64 0] yf)):=⟨_,rfl⟩
  have st: ∀κ:Ka,aK 2 (.pto (h.length+1) 0) (.agg [N64 0,N64 0]) H7 κ=κ (.tup []) H8:=fun κ=>by rw [hH8];exact bU (n:=2) (q:=[N64 0,N64 0]) z7 rfl rfl rfl κ
  have o8: ∀i,i≠h.length+1→ae H8 i=ae H7 i:=fun i hi=>by rw [hH8,ai (Ne.symm hi)]
  have l8:H8.length=H7.length:=by rw [hH8,List.length_set]
  have fx8:Fx 3 h H8:=by
   rw [hH8]
   exact Fx.adj (by omega) (Fx.trans fx6 ⟨o71,fun i hi _=>o7.2 i hi⟩) _
  simp only [adR,decide_true,bqT]
  refine wEq (agx ..) ?_
  rw [mU]
  refine wEq (st _) ?_
  rw [lV]
  refine en H8 v10 0 0 fx8 (I6.of ((o8 3 (by omega)).trans (o7.2 3 (by omega)))) (by rw [hH8];exact az (by omega) _) (fun x1 x2=>⟨x1,x2,?_⟩) _ _ _ _ _ _ _ _ _ _ _ _ _
  rw [hL]
  refine ⟨v10,rfl,rows,ow7.mono fun b hb hs=>⟨by omega,o8 b (by omega)⟩,lr,fun i r x hi hx=>?_⟩
  obtain ⟨dv,er2,D⟩:=hr i r x hi hx
  exact ⟨dv,er2,D.mono fun b hb hs=>⟨by omega,(o8 b (by omega)).trans (o7.2 b hb)⟩⟩
end
end Go.Proofs.YteapfopaiocpeaaGreatDoor
