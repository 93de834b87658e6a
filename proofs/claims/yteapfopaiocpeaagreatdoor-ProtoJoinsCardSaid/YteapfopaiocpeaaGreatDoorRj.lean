/- An item of package shelf reads bytes: what its program tells, and it is counted. The functions' code is printed by a program. -/
import Derived.Test.YteapfopaiocpeaaGreatDoorRi
namespace Go.Proofs.YteapfopaiocpeaaGreatDoor
set_option linter.unusedSimpArgs false
set_option linter.unusedVariables false
set_option linter.unnecessarySimpa false
set_option linter.defProp false
noncomputable section
def jW (v0 v1 v2 v3 v7 v8 v9 v10 v11 v12:AV):Tm:=(.nd 8 (.nd 2 (.nd 1 (.lf 0 v0) (.lf 1 v1)) (.nd 3 (.lf 2 v2) (.nd 7 (.lf 3 v3) (.lf 7 v7)))) (.nd 10 (.nd 9 (.lf 8 v8) (.lf 9 v9)) (.nd 11 (.lf 10 v10) (.nd 12 (.lf 11 v11) (.lf 12 v12)))))
def acI (mx:Int):K:=kAt [] (kOf (CL mx) 46)
def ajr (mx:Int):K:=kAt [1,1,1,0] (kOf (CL mx) 46)
def ak9 (mx:Int):K:=kAt [1,1,1,1] (kOf (CL mx) 46)
section
set_option maxRecDepth 100000
variable (mx:Int) (run:Run) (lp:Lp) (κn:Kt) (κx:Ex→Kt) (h:AH) (v0 v1 v2 v3 v7 v8 v9 v10 v11 v12:AV)
theorem ags:kc (CL mx) run lp (acI mx) ⟨jW v0 v1 v2 v3 v7 v8 v9 v10 v11 v12,h⟩ κn κx=gZ 34 v3 h (fun a0 h=>dY h (.cells [.int 18446744073709551615 0,.bool false,.nils,.nils] 70) (fun a1 h=>dY h (.cells [.int 9223372036854775807 0,.int 9223372036854775807 0] 28) (fun a2 h=>aQ 3 a0 h (fun a3 h=>aL (fun a4 h=>eO 0 a4 h (fun a5 h=>eO 1 a4 h (fun a6 h=>eO 2 a4 h (fun a7 h=>dY h (.cells [.int 18446744073709551615 0,.bool false,.nils,.nils] 70) (fun a8 h=>dY h (.cells [.int 9223372036854775807 0,.int 9223372036854775807 0] 28) (fun a9 h=>aK 4 a8 a5 h (fun a10 h=>aK 2 a9 a7 h (fun a11 h=>bH v2 h (fun a12 h=>aQ 2 a9 h (fun a13 h=>aL (fun a14 h=>kc (CL mx) run lp (ajr mx) ⟨jW v0 v1 v2 v3 a0 a1 a2 a8 a6 a9,h⟩ (fun s=>kc (CL mx) run lp (ak9 mx) s κn κx) κx) (aD (CL mx) run 73 [v0,a12,a6,a13] h))))))))))) (aD (CL mx) run 72 [v1,v2,a3] h))))):=by kernel_rfl
theorem ag7:kc (CL mx) run lp (ajr mx) ⟨jW v0 v1 v2 v3 v7 v8 v9 v10 v11 v12,h⟩ κn κx=kcR κn κx (fC (sRd [] h (aQ 4 v10 h kVH) fun r0=>sRd [r0.v] r0.h' (aQ 2 v12 r0.h' kVH) fun r1=>sEf [r1.v,r0.v] r1.h' (aK 4 v8 r0.v r1.h' kVH) fun r2=>sEf [r2.v,r1.v,r0.v] r2.h' (aK 2 v9 r1.v r2.h' kVH) fun r3=>bq (and (cz r1 (OK.f (.mk (o1 (aQ 2) (.tr 12))) (CL mx) run r1.σ (jW v0 v1 v2 v3 v7 v8 v9 v10 v11 v12) (cF (aj r1.h) r2.h') kVH)) (true)) (some (.st (jW v0 v1 v2 v3 v7 v8 v9 v10 v11 v12) r3.h')) none)):=(gL (C:=CL mx) (D:=bC (CL mx) (opsOf (cAt [1,1,1,0] (aH (CL mx) 46))).toList (bM (opsOf (cAt [1,1,1,0] (aH (CL mx) 46))).toList) 0 (aV (CL mx) (opsOf (cAt [1,1,1,0] (aH (CL mx) 46))).toList [] (opsOf (cAt [1,1,1,0] (aH (CL mx) 46))).toList)) (pl:=bo (CL mx) (opsOf (cAt [1,1,1,0] (aH (CL mx) 46)))) (fl:=flL [0,1,2,3,7,8,9,10,11,12] (opsOf (cAt [1,1,1,0] (aH (CL mx) 46))).toList) (by kernel_rfl) _ _ _).trans (by kernel_rfl)
theorem ahB:kc (CL mx) run lp (ak9 mx) ⟨jW v0 v1 v2 v3 v7 v8 v9 v10 v11 v12,h⟩ κn κx=κx .ret ⟨jW v0 v1 v2 v3 v7 v8 v9 v10 v11 v12,h⟩:=by kernel_rfl
theorem aaV:aW (jW v0 v1 v2 v3 v7 v8 v9 v10 v11 v12) 12=v12:=(rfl)
theorem alN:kcE (CL mx) [.cell 8 69,.cell 9 27] ⟨jW v0 v1 v2 v3 v7 v8 v9 v10 v11 v12,h⟩=aQ 4 v8 h (fun r0 _=>aQ 2 v9 h (fun r1 _=>some (.vh (.tup [r0,r1]) h))):=(bJ _ _ _).trans (by kernel_rfl)
theorem amX:dp (CL mx) 46=some ⟨acI mx,[0,1,2,3,7,8,9,10,11,12],29,[.cell 8 69,.cell 9 27]⟩:=by kernel_rfl
end
theorem aiJ (mx:Int) (run:Run) (lp:Lp) (x0 x1 x2 x3:AV) (h:AH):cW (CL mx) run lp 46 [x0,x1,x2,x3] h=vhO (kc (CL mx) run lp (acI mx) ⟨jW x0 x1 x2 x3 .bot .bot .bot .bot .bot .bot,h⟩ (kcE (CL mx) [.cell 8 69,.cell 9 27]) (kcQ (CL mx) [.cell 8 69,.cell 9 27])):=(bK (by kernel_rfl) (amX mx) (by kernel_rfl)).trans (by kernel_rfl)
def gF (v0 v1 v2 v5 v6 v7 v8 v13:AV):Tm:=(.nd 6 (.nd 2 (.nd 1 (.lf 0 v0) (.lf 1 v1)) (.nd 5 (.lf 2 v2) (.lf 5 v5))) (.nd 8 (.nd 7 (.lf 6 v6) (.lf 7 v7)) (.nd 13 (.lf 8 v8) (.lf 13 v13))))
def ab4 (mx:Int):K:=kAt [] (kOf (CL mx) 24)
def ajk (mx:Int):K:=kAt [1,0] (kOf (CL mx) 24)
def alE (mx:Int):K:=kAt [1,1] (kOf (CL mx) 24)
def arn (mx:Int):K:=kAt [1,0,1,1,0,0] (kOf (CL mx) 24)
def ap2 (mx:Int):K:=kAt [1,0,1,1,0,1] (kOf (CL mx) 24)
def akh (mx:Int):K:=kAt [1,1,0] (kOf (CL mx) 24)
def alO (mx:Int):K:=kAt [1,1,1] (kOf (CL mx) 24)
section
set_option maxRecDepth 100000
variable (mx:Int) (run:Run) (lp:Lp) (κn:Kt) (κx:Ex→Kt) (h:AH) (v0 v1 v2 v5 v6 v7 v8 v13:AV)
theorem afe:kc (CL mx) run lp (ab4 mx) ⟨gF v0 v1 v2 v5 v6 v7 v8 v13,h⟩ κn κx=gZ 34 v2 h (fun a0 h=>dY h (.cells [.int 18446744073709551615 0,.bool false,.nils,.nils] 70) (fun a1 h=>dY h (.cells [.int 9223372036854775807 0,.int 9223372036854775807 0] 28) (fun a2 h=>kc (CL mx) run lp (ajk mx) ⟨gF v0 v1 v2 a0 a1 a2 v8 v13,h⟩ (fun s=>kc (CL mx) run lp (alE mx) s κn κx) κx))):=by kernel_rfl
theorem afq:kc (CL mx) run lp (ajk mx) ⟨gF v0 v1 v2 v5 v6 v7 v8 v13,h⟩ κn κx=aL (fun a0 h=>dY h (.cells [.int 9223372036854775807 0,.int 9223372036854775807 0] 28) (fun a1 h=>aK 2 a1 a0 h (fun a2 h=>ao 0 a1 h (fun a3 h=>ar a3 h (fun a4 h=>cmp ine a4 (.int 9223372036854775807 0) h (fun a5 h=>bG a5 (kc (CL mx) run lp (arn mx) ⟨gF v0 v1 v2 v5 v6 v7 a1 a5,h⟩ (fun s=>kc (CL mx) run lp (ap2 mx) s κn κx) κx) (κn ⟨gF v0 v1 v2 v5 v6 v7 a1 a5,h⟩))))))) (aD (CL mx) run 45 [v0] h):=by kernel_rfl
theorem ag8:kc (CL mx) run lp (alE mx) ⟨gF v0 v1 v2 v5 v6 v7 v8 v13,h⟩ κn κx=kc (CL mx) run lp (akh mx) ⟨gF v0 v1 v2 v5 v6 v7 v8 v13,h⟩ (fun s=>kc (CL mx) run lp (alO mx) s κn κx) κx:=by kernel_rfl
theorem agX:kc (CL mx) run lp (akh mx) ⟨gF v0 v1 v2 v5 v6 v7 v8 v13,h⟩ κn κx=aC v0 h (fun a0 h=>ao 16 a0 h (fun a1 h=>aC v0 h (fun a2 h=>ao 7 a2 h (fun a3 h=>ar a3 h (fun a4 h=>aQ 3 v5 h (fun a5 h=>aL (fun a6 h1=>bq (Nat.ble (aj h) (aj h1)) ((fun h=>eO 0 a6 h (fun a7 h=>eO 1 a6 h (fun a8 h=>aK 4 v6 a7 h (fun a9 h1=>bq (Nat.ble (aj h) (aj h1)) ((fun h=>aK 2 v7 a8 h (fun a10 h1=>bq (Nat.ble (aj h) (aj h1)) ((fun h=>κn ⟨gF v0 v1 v2 v5 v6 v7 v8 v13,h⟩) h1) none)) h1) none)))) h1) none) (aD (CL mx) run 46 [a1,a4,v1,a5] h))))))):=(cE (C:=CL mx) (ops:=opsOf (cAt [1,1,0] (aH (CL mx) 24))) (ps:=[0,1,2,5,6,7,8,13]) (by kernel_rfl) (by kernel_rfl) _ _ _).trans (by kernel_rfl)
theorem agL:kc (CL mx) run lp (alO mx) ⟨gF v0 v1 v2 v5 v6 v7 v8 v13,h⟩ κn κx=κx .ret ⟨gF v0 v1 v2 v5 v6 v7 v8 v13,h⟩:=by kernel_rfl
theorem ai2:kcE (CL mx) [.cell 6 69,.cell 7 27] ⟨gF v0 v1 v2 v5 v6 v7 v8 v13,h⟩=aQ 4 v6 h (fun r0 _=>aQ 2 v7 h (fun r1 _=>some (.vh (.tup [r0,r1]) h))):=(bJ _ _ _).trans (by kernel_rfl)
theorem ao4:dp (CL mx) 24=some ⟨ab4 mx,[0,1,2,5,6,7,8,13],28,[.cell 6 69,.cell 7 27]⟩:=by kernel_rfl
end
theorem akH (mx:Int) (run:Run) (lp:Lp) (x0 x1 x2:AV) (h:AH):cW (CL mx) run lp 24 [x0,x1,x2] h=vhO (kc (CL mx) run lp (ab4 mx) ⟨gF x0 x1 x2 .bot .bot .bot .bot .bot,h⟩ (kcE (CL mx) [.cell 6 69,.cell 7 27]) (kcQ (CL mx) [.cell 6 69,.cell 7 27])):=(bK (by kernel_rfl) (ao4 mx) (by kernel_rfl)).trans (by kernel_rfl)
end
def MsR (i0:Nat) (cp wp:AV) (h:AH) (F:PR) (x:AV) (h':AH):Prop:=
 It h' i0 cp wp∧Fx i0 h h'∧((F.code≠0∧x= .tup [.agg ZT,.agg [N64 F.code,N64 F.fat]])∨
  (F.code=0∧ ∃n b d t0 ks q0,F.stack=[.nd n b d (t0::ks)]∧x= .tup [.agg q0,.agg [N64 0,N64 0]]∧fK h' (fun b=>h.length≤b) q0 t0))
section
variable {mx:Int} {h h' h2:AH} {i0:Nat} {cp wp:AV} {F:PR}
theorem agz (I:It h i0 cp wp) {rp bv:AV} {n k:Nat} {a b c:Nat} (hlen: ∀(h':AH) (κ:Ka),bH bv h' κ=κ (N64 k) h')
 (f:Nat) (HS: ∀h',h.length≤h'.length→(∀i,i<h.length→ae h' i=ae h i)→aG (ScR h'.length h' F) ((rl (CL mx) (f+2)).run 72 [rp,bv,.agg [N64 a,N64 b,N64 c]] h')):
 aG (MsR i0 cp wp h F) ((rl (CL mx) (f+3)).run 46 [.pto i0 16,rp,bv,.agg [N64 a,N64 b,N64 c]] h):=by
 refine aG.runs (n:=f+2) (aiJ mx _ _ _ _ _ _ _) ?_
 have lt:=I.lt
 obtain ⟨X,hX⟩: ∃X:Blk,X=Blk.cells [N64 a,N64 b,N64 c] (33+1):=⟨_,rfl⟩
 obtain ⟨yt,hyt⟩: ∃y:Nat,y=69+1:=⟨_,rfl⟩
 obtain ⟨yf,hyf⟩: ∃y:Nat,y=27+1:=⟨_,rfl⟩
 obtain ⟨Y,hY⟩: ∃Y:Blk,Y=Blk.cells ZT yt:=⟨_,rfl⟩
 obtain ⟨Z,hZ⟩: ∃Z:Blk,Z=Blk.cells [.int 9223372036854775807 0,.int 9223372036854775807 0] yf:=⟨_,rfl⟩
 obtain ⟨H,hH⟩: ∃H,H=h++[some X]++[some Y]++[some Z]:=⟨_,rfl⟩
 have lH:H.length=h.length+3:=by rw [hH];simp
 have oH: ∀i,i<h.length→ae H i=ae h i:=fun i hi=>by rw [hH,aq (by simp;omega),aq (by simp;omega),aq hi]
 have xH:ae H h.length=some X:=by rw [hH,aq (by simp),aq (by simp),aI]
 have yH:ae H (h.length+1)=some Y:=by
  rw [hH,aq (by simp)]
  have:=aI (h++[some X]) (some Y)
  rwa [List.length_append] at this
 have zH:ae H (h.length+1+1)=some Z:=by
  rw [hH]
  have:=aI (h++[some X]++[some Y]) (some Z)
  rwa [List.length_append,List.length_append] at this
 have l1:(h++[some X]).length=h.length+1:=by simp
 have l2:(h++[some X]++[some Y]).length=h.length+1+1:=by simp
 have sX:=hX;have sY:=hY;have sZ:=hZ
 rw [hyt] at sY;rw [hyf] at sZ
 simp only [Nat.reduceAdd,ZT] at sX sY sZ
 have ld: ∀κ:Ka,aQ 3 (.pto h.length 0) H κ=κ (.agg [N64 a,N64 b,N64 c]) H:=fun κ=>bS (n:=3) (y:=33+1) (by rw [xH,hX]) rfl κ
 simp only [sy,List.length_append,Nat.reduceAdd,Nat.reduceMul,Nat.reduceSub,Nat.reduceLeDiff,Nat.reduceEqDiff,Nat.reduceLT,reduceIte,ags,dP,show (AV.agg [N64 a,N64 b,N64 c]).nb=true from rfl,show (AV.agg [N64 a,N64 b,N64 c]).cells=[N64 a,N64 b,N64 c] from rfl,←sX,←sY,←sZ,l1,l2,←hH,ld]
 have g:=HS H (by omega) oH
 refine bE g.call ?_
 rintro x h1 ⟨s1,s2,stp,s3⟩
 have I1:It h1 i0 cp wp:=I.of ((s2 i0 (by omega)).trans (oH i0 lt))
 have x1:ae h1 (h.length+1)=some Y:=(s2 _ (by omega)).trans yH
 have z1:ae h1 (h.length+1+1)=some Z:=(s2 _ (by omega)).trans zH
 rw [hY] at x1;rw [hZ] at z1
 suffices fin: ∀(q:List AV) (e1 e2:Nat),q.length=4→aR q=true→x= .tup [.agg q,.int 9223372036854775807 stp,.agg [N64 e1,N64 e2]]→Ends (fun r h'=>It h' i0 cp wp∧Fx i0 h h'∧r= .tup [.agg q,.agg [N64 e1,N64 e2]]∧ ∀i,h.length+3≤i→i<h1.length→ae h' i=ae h1 i) _ by
  rcases s3 with ⟨c0,e⟩|⟨c0,n,b,d,t0,ks,q0,e0,e,T⟩
  ·obtain ⟨r,h',e3,p1,p2,p3,p4⟩:=fin ZT F.code F.fat rfl rfl e
   exact ⟨r,h',e3,p1,p2,.inl ⟨c0,p3⟩⟩
  ·have q4:=T.four
   obtain ⟨r,h',e3,p1,p2,p3,p4⟩:=fin q0 0 0 q4.1 q4.2 e
   exact ⟨r,h',e3,p1,p2,.inr ⟨c0,n,b,d,t0,ks,q0,e0,p3,T.mono t0 fun j hj hs=>⟨by omega,p4 j (by omega) hj⟩⟩⟩
 clear s3
 rintro q e1 e2 q4 qp rfl
 have l3:(h1++[some Y]).length=h1.length+1:=by simp
 obtain ⟨H2,hH2⟩: ∃H2,H2=h1++[some Y]++[some Z]:=⟨_,rfl⟩
 have lH2:H2.length=h1.length+2:=by rw [hH2];simp
 have yH2:ae H2 h1.length=some Y:=by rw [hH2,aq (by simp),aI]
 have zH2:ae H2 (h1.length+1)=some Z:=by
  rw [hH2]
  have:=aI (h1++[some Y]) (some Z)
  rwa [l3] at this
 rw [hY] at yH2
 rw [hZ] at zH2
 have oH2: ∀i,i<h1.length→ae H2 i=ae h1 i:=fun i hi=>by rw [hH2,aq (by simp;omega),aq hi]
 obtain ⟨H3,hH3⟩: ∃H3,H3=(H2.set h1.length (some (.cells q yt))).set (h1.length+1) (some (.cells [N64 e1,N64 e2] yf)):=⟨_,rfl⟩
 have lH3:H3.length=h1.length+2:=by rw [hH3,List.length_set,List.length_set];exact lH2
 have t3:ae H3 h1.length=some (.cells q yt):=by rw [hH3,ai (by omega)];exact az (by omega) _
 have f3:ae H3 (h1.length+1)=some (.cells [N64 e1,N64 e2] yf):=by rw [hH3];exact az (by rw [List.length_set];omega) _
 have oH3: ∀i,i<h1.length→ae H3 i=ae h1 i:=fun i hi=>by rw [hH3,ai (by omega),ai (by omega),oH2 i hi]
 have st1: ∀κ:Ka,aK 4 (.pto h1.length 0) (.agg q) H2 κ=κ (.tup []) (H2.set h1.length (some (.cells q yt))):=fun κ=>bU yH2 rfl q4 qp κ
 have zH3:=(ai (h:=H2) (show h1.length≠h1.length+1 by omega) (some (.cells q yt))).trans zH2
 have st2: ∀κ:Ka,aK 2 (.pto (h1.length+1) 0) (.agg [N64 e1,N64 e2]) (H2.set h1.length (some (.cells q yt))) κ=κ (.tup []) H3:=fun κ=>by rw [hH3];exact bU (n:=2) (q:=[N64 e1,N64 e2]) zH3 rfl rfl rfl κ
 have I3:It H3 i0 cp wp:=I1.of (oH3 i0 (by omega))
 simp only [iK,dC,List.getElem?_cons_zero,List.getElem?_cons_succ,j6,l3,←hH2]
 refine wEq (st1 _) ?_
 refine wEq (st2 _) ?_
 refine wEq (hlen _ _) ?_
 simp only [sy,List.length_append,Nat.reduceAdd,Nat.reduceMul,Nat.reduceSub,Nat.reduceLeDiff,Nat.reduceEqDiff,Nat.reduceLT,reduceIte,f3]
 refine bE (afQ (mx:=mx) I3 _ _ _ _ f).call ?_
 rintro r h4 ⟨I4,F4⟩
 have ne: ∀j,i0<j→j≠i0:=fun j hj=>by omega
 have f4:=(F4.2 (h1.length+1) (by omega) (by omega)).trans f3
 have t4:=(F4.2 h1.length (by omega) (by omega)).trans t3
 have y4:=((F4.2 (h.length+1) (by omega) (by omega)).trans (oH3 _ (by omega))).trans x1
 have z4:=((F4.2 (h.length+1+1) (by omega) (by omega)).trans (oH3 _ (by omega))).trans z1
 have l4:=F4.1
 obtain ⟨H5,hH5⟩: ∃H5,H5=h4.set (h.length+1) (some (.cells q yt)):=⟨_,rfl⟩
 obtain ⟨H6,hH6⟩: ∃H6,H6=H5.set (h.length+1+1) (some (.cells [N64 e1,N64 e2] yf)):=⟨_,rfl⟩
 have lH5:H5.length=h4.length:=by rw [hH5,List.length_set]
 have lH6:H6.length=h4.length:=by rw [hH6,List.length_set,lH5]
 have st3: ∀κ:Ka,aK 4 (.pto (h.length+1) 0) (.agg q) h4 κ=κ (.tup []) H5:=fun κ=>by rw [hH5];exact bU y4 rfl q4 qp κ
 have z5:=(ai (h:=h4) (show h.length+1≠h.length+1+1 by omega) (some (.cells q yt))).trans z4
 rw [←hH5] at z5
 have st4: ∀κ:Ka,aK 2 (.pto (h.length+1+1) 0) (.agg [N64 e1,N64 e2]) H5 κ=κ (.tup []) H6:=fun κ=>by rw [hH6];exact bU (n:=2) (q:=[N64 e1,N64 e2]) z5 rfl rfl rfl κ
 have ld1: ∀κ:Ka,aQ 4 (.pto h1.length 0) h4 κ=κ (.agg q) h4:=fun κ=>bS t4 q4 κ
 have ld2: ∀κ:Ka,aQ 2 (.pto (h1.length+1) 0) h4 κ=κ (.agg [N64 e1,N64 e2]) h4:=fun κ=>bS f4 rfl κ
 have f5:ae H5 (h1.length+1)=some (.cells [N64 e1,N64 e2] yf):=by rw [hH5,ai (by omega)];exact f4
 have t6:ae H6 (h.length+1)=some (.cells q yt):=by rw [hH6,ai (by omega),hH5];exact az (by omega) _
 have f6:ae H6 (h.length+1+1)=some (.cells [N64 e1,N64 e2] yf):=by rw [hH6];exact az (by omega) _
 have ld3: ∀κ:Ka,aQ 2 (.pto (h1.length+1) 0) H5 κ=κ (.agg [N64 e1,N64 e2]) H5:=fun κ=>bS (n:=2) f5 rfl κ
 have ld5: ∀κ:Ka,aQ 4 (.pto (h.length+1) 0) H6 κ=κ (.agg q) H6:=fun κ=>bS t6 q4 κ
 have ld6: ∀κ:Ka,aQ 2 (.pto (h.length+1+1) 0) H6 κ=κ (.agg [N64 e1,N64 e2]) H6:=fun κ=>bS (n:=2) f6 rfl κ
 have gf:cF (aj h4) H5=H5:=by rw [show aj h4=aj H5 by rw [ah,ah,lH5],cT]
 have ble5:decide (h4.length≤H5.length)=true:=by rw [decide_eq_true_iff];omega
 have ble6:decide (H5.length≤H6.length)=true:=by rw [decide_eq_true_iff];omega
 refine wEq (ag7 ..) ?_
 simp only [sy0,sy3,syL,fN,ij,fV,ld1,ld2,ld3,st3,st4,ble5,ble6,ji,o1,nq,mz,aaV,cV,gf]
 rw [show ltL (aj h4) [N64 e1,N64 e2]=true from rfl,bqT]
 simp only [fB,yU,ahB,lV,alN]
 refine wEq (ld5 _) ?_
 refine wEq (ld6 _) ?_
 have F6:Fx i0 h H6:=by
  have fx1:Fx i0 h h1:=⟨by omega,fun i hi _=>(s2 i (by omega)).trans (oH i hi)⟩
  have fx3:Fx i0 h H3:=⟨by omega,fun i hi hn=>(oH3 i (by omega)).trans (fx1.2 i hi hn)⟩
  rw [hH6]
  refine Fx.adj (by omega) ?_ _
  rw [hH5]
  exact Fx.adj (by omega) (fx3.trans F4) _
 refine Ends.mk ⟨I4.of ?_,F6,rfl,fun i hi hi1=>?_⟩
 ·rw [hH6,ai (by omega),hH5,ai (by omega)]
 ·rw [hH6,ai (by omega),hH5,ai (by omega),F4.2 i (by omega) (by omega),oH3 i hi1]
theorem ahx {H0:AH} {bv:AV} {k a b c:Nat} (hlen: ∀(h':AH) (κ:Ka),bH bv h' κ=κ (N64 k) h') (hi:i0<h.length)
 (f:Nat) (hH:H0=h++[some (.cells [N64 a,N64 b,N64 c] (33+1))]++[some (.cells ZT (69+1))]++[some (.cells [.int 9223372036854775807 0,.int 9223372036854775807 0] (27+1))])
 (HR:aG (fun r h'=>r= .agg [N64 0,N64 0]∧It h' i0 cp wp∧Fx i0 H0 h') ((rl (CL mx) (f+3)).run 45 [.pto i0 0] H0))
 (HS: ∀h',h.length≤h'.length→(∀i,i<h.length→i≠i0→ae h' i=ae h i)→aG (ScR h'.length h' F) ((rl (CL mx) (f+2)).run 72 [cp,bv,.agg [N64 a,N64 b,N64 c]] h')):
 aG (MsR i0 cp wp h F) ((rl (CL mx) (f+4)).run 24 [.pto i0 0,bv,.agg [N64 a,N64 b,N64 c]] h):=by
 refine aG.runs (n:=f+3) (akH mx _ _ _ _ _ _) ?_
 obtain ⟨X,hX⟩: ∃X:Blk,X=Blk.cells [N64 a,N64 b,N64 c] (33+1):=⟨_,rfl⟩
 obtain ⟨yt,hyt⟩: ∃y:Nat,y=69+1:=⟨_,rfl⟩
 obtain ⟨yf,hyf⟩: ∃y:Nat,y=27+1:=⟨_,rfl⟩
 obtain ⟨Y,hY⟩: ∃Y:Blk,Y=Blk.cells ZT yt:=⟨_,rfl⟩
 obtain ⟨Z,hZ⟩: ∃Z:Blk,Z=Blk.cells [.int 9223372036854775807 0,.int 9223372036854775807 0] yf:=⟨_,rfl⟩
 have sX:=hX;have sY:=hY;have sZ:=hZ
 rw [hyt] at sY;rw [hyf] at sZ
 rw [←hyt,←hyf,←hX,←hY,←hZ] at hH
 have lH:H0.length=h.length+3:=by rw [hH];simp
 have oH: ∀i,i<h.length→ae H0 i=ae h i:=fun i hi=>by rw [hH,aq (by simp;omega),aq (by simp;omega),aq hi]
 have xH:ae H0 h.length=some X:=by rw [hH,aq (by simp),aq (by simp),aI]
 have yH:ae H0 (h.length+1)=some Y:=by
  rw [hH,aq (by simp)]
  have:=aI (h++[some X]) (some Y)
  rwa [List.length_append] at this
 have zH:ae H0 (h.length+1+1)=some Z:=by
  rw [hH]
  have:=aI (h++[some X]++[some Y]) (some Z)
  rwa [List.length_append,List.length_append] at this
 have l1:(h++[some X]).length=h.length+1:=by simp
 have l2:(h++[some X]++[some Y]).length=h.length+1+1:=by simp
 simp only [Nat.reduceAdd,ZT] at sX sY sZ
 refine wEq (afe ..) ?_
 rw [dP]
 simp only [dC,bqT,show (AV.agg [N64 a,N64 b,N64 c]).nb=true from rfl,show (AV.agg [N64 a,N64 b,N64 c]).cells=[N64 a,N64 b,N64 c] from rfl,←sX,←sY,←sZ,l1,l2,←hH]
 refine wEq (afq ..) ?_
 refine bE HR.call ?_
 rintro r h1 ⟨rfl,I1,F1⟩
 have l1':=F1.1
 have x1:=(F1.2 h.length (by omega) (by omega)).trans xH
 have y1:=(F1.2 (h.length+1) (by omega) (by omega)).trans yH
 have z1:=(F1.2 (h.length+1+1) (by omega) (by omega)).trans zH
 obtain ⟨H2,hH2⟩: ∃H2,H2=h1++[some (.cells [.int 9223372036854775807 0,.int 9223372036854775807 0] yf)]:=⟨_,rfl⟩
 have st: ∀κ:Ka,aK 2 (.pto h1.length 0) (.agg [N64 0,N64 0]) (h1++[some Z]) κ=κ (.tup []) H2:=fun κ=>by rw [hZ,hH2];exact cY rfl rfl rfl
 have t2:ae H2 h1.length=some (.cells [.int 9223372036854775807 0,.int 9223372036854775807 0] yf):=by rw [hH2,aI]
 have o2: ∀i,i<h1.length→ae H2 i=ae h1 i:=fun i hi=>by rw [hH2,aq hi]
 have lH2:H2.length=h1.length+1:=by rw [hH2];simp
 have I2:It H2 i0 cp wp:=I1.of (o2 i0 (by omega))
 have x2:=(o2 h.length (by omega)).trans x1
 have y2:=(o2 (h.length+1) (by omega)).trans y1
 have z2:=(o2 (h.length+1+1) (by omega)).trans z1
 rw [hX] at x2
 rw [hY] at y2
 rw [hZ] at z2
 have ic: ∃cs y,ae H2 i0=some (.cells cs y)∧cs[7]? =some cp:=by
  obtain ⟨c0,c1,c2,c3,c5,c6,c9,c10,c11,c15,q,s,ff,bb,t,p,y,e⟩:=I2
  exact ⟨_,_,e,rfl⟩
 obtain ⟨ci,yi,e0,e7⟩:=ic
 simp only [dC,←sZ]
 refine wEq (st _) ?_
 have g1:decide ((0:Int)≠0)=false:=by decide
 simp only [sy,List.length_append,Nat.reduceAdd,Nat.reduceMul,Nat.reduceSub,Nat.reduceLeDiff,Nat.reduceEqDiff,Nat.reduceLT,reduceIte,t2,g1,ag8,agX,e0,e7,x2]
 have F2:Fx i0 h H2:=by
  rw [hH2]
  exact Fx.trans (Fx.trans (show Fx i0 h H0 from ⟨by omega,fun i hi _=>oH i hi⟩) F1) (Fx.app _)
 have g:=agz (mx:=mx) (F:=F) (rp:=cp) (n:=0) I2 (k:=k) (a:=a) (b:=b) (c:=c) hlen f fun h' l e=>HS h' (by omega) fun i hi hn=>(e i (by omega)).trans (F2.2 i hi hn)
 refine bE g.call ?_
 rintro r h3 ⟨I3,F3,s3⟩
 have l3:=F3.1
 have y3:=(F3.2 (h.length+1) (by omega) (by omega)).trans y2
 have z3:=(F3.2 (h.length+1+1) (by omega) (by omega)).trans z2
 suffices fin: ∀(q:List AV) (e1 e2:Nat),q.length=4→aR q=true→r= .tup [.agg q,.agg [N64 e1,N64 e2]]→Ends (fun r h'=>It h' i0 cp wp∧Fx i0 h h'∧r= .tup [.agg q,.agg [N64 e1,N64 e2]]∧ ∀i,h.length+3≤i→i<h3.length→ae h' i=ae h3 i) _ by
  rcases s3 with ⟨c0,e⟩|⟨c0,n,b,d,t0,ks,q0,e0,e,T⟩
  ·obtain ⟨r,h',e3,p1,p2,p3,p4⟩:=fin ZT F.code F.fat rfl rfl e
   exact ⟨r,h',e3,p1,p2,.inl ⟨c0,p3⟩⟩
  ·have q4:=T.four
   obtain ⟨r,h',e3,p1,p2,p3,p4⟩:=fin q0 0 0 q4.1 q4.2 e
   exact ⟨r,h',e3,p1,p2,.inr ⟨c0,n,b,d,t0,ks,q0,e0,p3,T.mono t0 fun j hj hs=>⟨by omega,p4 j (by omega) hj⟩⟩⟩
 clear s3
 rintro q e1 e2 q4 qp rfl
 obtain ⟨H5,hH5⟩: ∃H5,H5=h3.set (h.length+1) (some (.cells q yt)):=⟨_,rfl⟩
 obtain ⟨H6,hH6⟩: ∃H6,H6=H5.set (h.length+1+1) (some (.cells [N64 e1,N64 e2] yf)):=⟨_,rfl⟩
 have lH5:H5.length=h3.length:=by rw [hH5,List.length_set]
 have lH6:H6.length=h3.length:=by rw [hH6,List.length_set,lH5]
 have z5:ae H5 (h.length+1+1)=some (.cells [.int 9223372036854775807 0,.int 9223372036854775807 0] yf):=by rw [hH5,ai (by omega)];exact z3
 have st3: ∀κ:Ka,aK 4 (.pto (h.length+1) 0) (.agg q) h3 κ=κ (.tup []) H5:=fun κ=>by rw [hH5];exact bU y3 rfl q4 qp κ
 have st4: ∀κ:Ka,aK 2 (.pto (h.length+1+1) 0) (.agg [N64 e1,N64 e2]) H5 κ=κ (.tup []) H6:=fun κ=>by rw [hH6];exact bU (n:=2) (q:=[N64 e1,N64 e2]) z5 rfl rfl rfl κ
 have t6:ae H6 (h.length+1)=some (.cells q yt):=by rw [hH6,ai (by omega),hH5];exact az (by omega) _
 have f6:ae H6 (h.length+1+1)=some (.cells [N64 e1,N64 e2] yf):=by rw [hH6];exact az (by omega) _
 have ld5: ∀κ:Ka,aQ 4 (.pto (h.length+1) 0) H6 κ=κ (.agg q) H6:=fun κ=>bS t6 q4 κ
 have ld6: ∀κ:Ka,aQ 2 (.pto (h.length+1+1) 0) H6 κ=κ (.agg [N64 e1,N64 e2]) H6:=fun κ=>bS (n:=2) f6 rfl κ
 have b0:Nat.ble (aj H2) (aj h3)=true:=by rw [bL,ah,ah,decide_eq_true_iff];exact F3.1
 have b5:Nat.ble (aj h3) (aj H5)=true:=by rw [bL,ah,ah,decide_eq_true_iff];omega
 have b6:Nat.ble (aj H5) (aj H6)=true:=by rw [bL,ah,ah,decide_eq_true_iff];omega
 simp only [b0,bqT,iK,List.getElem?_cons_zero,List.getElem?_cons_succ,j6]
 refine wEq (st3 _) ?_
 simp only [b5,bqT]
 refine wEq (st4 _) ?_
 simp only [b6,bqT,agL,lV,ai2]
 refine wEq (ld5 _) ?_
 refine wEq (ld6 _) ?_
 have F6:Fx i0 h H6:=by
  rw [hH6]
  refine Fx.adj (by omega) ?_ _
  rw [hH5]
  exact Fx.adj (by omega) (F2.trans F3) _
 refine Ends.mk ⟨I3.of ?_,F6,rfl,fun i hi hi1=>?_⟩
 ·rw [hH6,ai (by omega),hH5,ai (by omega)]
 ·rw [hH6,ai (by omega),hH5,ai (by omega)]
end
end Go.Proofs.YteapfopaiocpeaaGreatDoor
