/- Contracts of this program, and what they tell in plain Lean. -/
import Derived.Test.YtemmgalfdmnkoaaGreatDoorLE
namespace Go.Proofs.YtemmgalfdmnkoaaGreatDoor
set_option linter.unusedSimpArgs false
set_option linter.unusedVariables false
set_option linter.unnecessarySimpa false
set_option linter.defProp false
noncomputable section
def dh (v0 v2 D E v5 z v7 w v t g v47:AV):Tm:=(.nd 7 (.nd 4 (.nd 2 (.lf 0 v0) (.nd 3 (.lf 2 v2) (.lf 3 D))) (.nd 5 (.lf 4 E) (.nd 6 (.lf 5 v5) (.lf 6 z)))) (.nd 24 (.nd 12 (.lf 7 v7) (.nd 18 (.lf 12 w) (.lf 18 v))) (.nd 31 (.lf 24 t) (.nd 47 (.lf 31 g) (.lf 47 v47)))))
def acj (mx:Int):K:=kAt [] (kOf (CL mx) 29)
def akw (mx:Int):K:=kAt [1,1,1,0] (kOf (CL mx) 29)
def anT (mx:Int):K:=kAt [1,1,1,1] (kOf (CL mx) 29)
def ad0 (mx:Int):K:=kAt [1,1,1,0,0,0] (kOf (CL mx) 29)
def amU (mx:Int):K:=kAt [1,1,1,0,0,0,1,0,1,1,0] (kOf (CL mx) 29)
def aoq (mx:Int):K:=kAt [1,1,1,0,0,0,1,0,1,1,1] (kOf (CL mx) 29)
section
set_option maxRecDepth 100000
variable (mx:Int) (run:Run) (lp:Lp) (κn:Kt) (κx:Ex→Kt) (h:AH) (v0 v2 D E v5 z v7 w v t g v47:AV)
theorem ajH:kc (CL mx) run lp (acj mx) ⟨dh v0 v2 D E v5 z v7 w v t g v47,h⟩ κn κx=cU h (.cells [.aa,.int 9223372036854775807 0] 48) (fun a0 h=>dX (placeOf (CL mx) [(0,45),(1,3)]) [.aa,.int 9223372036854775807 0] [(1,(.int 9223372036854775807 (-1)))] h (fun a1 h=>cU h (.cells [.aa,.int 9223372036854775807 0] 48) (fun a2 h=>ay 2 a2 a1 h (fun a3 h=>kc (CL mx) run lp (akw mx) ⟨dh v0 a0 (.int 9223372036854775807 0) (.bool false) a2 (.int 9223372036854775807 0) v7 w v t g v47,h⟩ (fun s=>kc (CL mx) run lp (anT mx) s κn κx) κx)))):=by kernel_rfl
theorem aht:kc (CL mx) run lp (akw mx) ⟨dh v0 v2 D E v5 z v7 w v t g v47,h⟩ κn κx=kcR κn (kcO 0 κn κx) (lp (ad0 mx) ⟨dh v0 v2 D E v5 z v7 w v t g v47,h⟩):=by kernel_rfl
theorem ajx:kc (CL mx) run lp (anT mx) ⟨dh v0 v2 D E v5 z v7 w v t g v47,h⟩ κn κx=aF 2 v5 h (fun a0 h=>ay 2 v2 a0 h (fun a1 h=>κx .ret ⟨dh v0 v2 (.int 9223372036854775807 0) (.bool false) v5 z v7 w v t g v47,h⟩)):=by kernel_rfl
theorem gF:kc (CL mx) run lp (ad0 mx) ⟨dh v0 v2 D E v5 z v7 w v t g v47,h⟩ κn κx=bG v0 h (fun a0 h=>cmp ilt z a0 h (fun a1 h=>bJ a1 (bM 1 v0 z h (fun a2 h=>ao a2 h (fun a3 h=>cvI 9223372036854775807 a3 h (fun a4 h=>cmp cD a4 (.int 9223372036854775807 0) h (fun a5 h=>bJ a5 (aF 2 v5 h (fun a6 h=>arith cg z (.int 9223372036854775807 1) h (fun a7 h=>ay 2 v2 a6 h (fun a8 h=>κx .ret ⟨dh v0 v2 a7 (.bool true) v5 z a4 a1 a5 t g v47,h⟩)))) (cmp ige a4 (.int 9223372036854775807 192) h (fun a6 h=>bJ a6 (arith cg z (.int 9223372036854775807 2) h (fun a7 h=>bG v0 h (fun a8 h=>cmp igt a7 a8 h (fun a9 h=>bJ a9 (aF 2 v5 h (fun a10 h=>ay 2 v2 a10 h (fun a11 h=>κx .ret ⟨dh v0 v2 (.int 9223372036854775807 0) (.bool false) v5 z a4 a1 a5 a6 a9 v47,h⟩))) (arith jC a4 (.int 9223372036854775807 192) h (fun a10 h=>arith mL a10 (.int 9223372036854775807 256) h (fun a11 h=>arith cg z (.int 9223372036854775807 1) h (fun a12 h=>bM 1 v0 a12 h (fun a13 h=>ao a13 h (fun a14 h=>cvI 9223372036854775807 a14 h (fun a15 h=>arith cg a11 a15 h (fun a16 h=>aj 1 v5 h (fun a17 h=>bQ a17 a16 h (fun a18 h=>aF 2 v5 h (fun a19 h=>arith cg z (.int 9223372036854775807 2) h (fun a20 h=>ay 2 v2 a19 h (fun a21 h=>κx .ret ⟨dh v0 v2 a20 (.bool true) v5 z a4 a1 a5 a6 a9 v47,h⟩))))))))))))))))) (cmp igt a4 (.int 9223372036854775807 63) h (fun a7 h=>aC a7 false (fun κ=>aW z h κ) h (fun a8 h=>aC a7 false (fun κ=>arith cg a8 (.int 9223372036854775807 1) h κ) h (fun a9 h=>aC a7 false (fun κ=>aW a4 h κ) h (fun a10 h=>aC a7 false (fun κ=>arith cg a9 a10 h κ) h (fun a11 h=>aC a7 false (fun κ=>aW v0 h κ) h (fun a12 h=>aC a7 false (fun κ=>bG a12 h κ) h (fun a13 h=>aC a7 false (fun κ=>cmp igt a11 a13 h κ) h (fun a14 h=>fw a7 (.bool true) a14 h (fun a15 h=>bJ a15 (aF 2 v5 h (fun a16 h=>ay 2 v2 a16 h (fun a17 h=>κx .ret ⟨dh v0 v2 (.int 9223372036854775807 0) (.bool false) v5 z a4 a1 a5 a6 g a15,h⟩))) (kc (CL mx) run lp (amU mx) ⟨dh v0 v2 D E v5 z a4 a1 a5 a6 g a15,h⟩ (fun s=>kc (CL mx) run lp (aoq mx) s κn (kcO 1 κn κx)) (kcO 1 κn κx))))))))))))))))))) (κx (.exit 0) ⟨dh v0 v2 D E v5 z v7 a1 v t g v47,h⟩))):=by kernel_rfl
theorem ag1:kc (CL mx) run lp (amU mx) ⟨dh v0 v2 D E v5 z v7 w v t g v47,h⟩ κn κx=aj 0 v5 h (fun a0 h=>ao a0 h (fun a1 h=>arith cg z (.int 9223372036854775807 1) h (fun a2 h=>arith cg z (.int 9223372036854775807 1) h (fun a3 h=>arith cg a3 v7 h (fun a4 h=>slS 1 v0 (some a2) (some a4) none h (fun a5 h=>dD a5 h (fun a6 h=>fA 1 1 [.str []] [(0,a6)] h (fun a7 h=>gg 10 1 16 a1 a7 h (fun a8 h1=>bq (Nat.ble (ag h) (ag h1)) ((fun h=>aj 0 v5 h (fun a9 h=>bQ a9 a8 h (fun a10 h1=>bq (Nat.ble (ag h) (ag h1)) ((fun h=>κn ⟨dh v0 v2 D E v5 z v7 w v t g v47,h⟩) h1) none))) h1) none))))))))):=(cA (C:=CL mx) (ops:=opsOf (cAt [1,1,1,0,0,0,1,0,1,1,0] (bS (CL mx) 29))) (ps:=[0,2,3,4,5,6,7,12,18,24,31,47]) (by kernel_rfl) (by kernel_rfl) _ _ _).trans (by kernel_rfl)
theorem aho:kc (CL mx) run lp (aoq mx) ⟨dh v0 v2 D E v5 z v7 w v t g v47,h⟩ κn κx=arith cg (.int 9223372036854775807 1) v7 h (fun a0 h=>arith cg z a0 h (fun a1 h=>κn ⟨dh v0 v2 D E v5 a1 v7 w v t g v47,h⟩)):=by kernel_rfl
theorem akb:kcE (CL mx) [.cell 2 47,.tmp 3,.tmp 4] ⟨dh v0 v2 D E v5 z v7 w v t g v47,h⟩=aF 2 v2 h (fun r0 _=>some (.vh (.tup [r0,D,E]) h)):=(bW _ _ _).trans (by kernel_rfl)
theorem asi:dz (CL mx) 29=some ⟨acj mx,[0,2,3,4,5,6,7,12,18,24,31,47],79,[.cell 2 47,.tmp 3,.tmp 4]⟩:=by kernel_rfl
end
theorem alf (mx:Int) (run:Run) (lp:Lp) (x0:AV) (h:AH):dk (CL mx) run lp 29 [x0] h=vhO (kc (CL mx) run lp (acj mx) ⟨dh x0 .bot .bot .bot .bot .bot .bot .bot .bot .bot .bot .bot,h⟩ (kcE (CL mx) [.cell 2 47,.tmp 3,.tmp 4]) (kcQ (CL mx) [.cell 2 47,.tmp 3,.tmp 4])):=(bV (by kernel_rfl) (asi mx) (by kernel_rfl)).trans (by kernel_rfl)
theorem ajR (mx:Int) (p:List Nat):eQ (CL mx) (kAt p (kOf (CL mx) 29)):=iX p (iT (CL mx) 29)
def mR (v0 v2:AV):Tm:=(.nd 2 (.lf 0 v0) (.lf 2 v2))
def adk (mx:Int):K:=kAt [] (kOf (CL mx) 28)
def apv (mx:Int):K:=kAt [1,0] (kOf (CL mx) 28)
def anu (mx:Int):K:=kAt [1,1] (kOf (CL mx) 28)
section
set_option maxRecDepth 100000
variable (mx:Int) (run:Run) (lp:Lp) (κn:Kt) (κx:Ex→Kt) (h:AH) (v0 v2:AV)
theorem agQ:kc (CL mx) run lp (adk mx) ⟨mR v0 v2,h⟩ κn κx=kc (CL mx) run lp (apv mx) ⟨mR v0 (.int 9223372036854775807 0),h⟩ (fun s=>kc (CL mx) run lp (anu mx) s κn κx) κx:=by kernel_rfl
theorem ahT:kc (CL mx) run lp (apv mx) ⟨mR v0 v2,h⟩ κn κx=bM 1 v0 (.int 9223372036854775807 0) h (fun a0 h=>ao a0 h (fun a1 h=>cvI 9223372036854775807 a1 h (fun a2 h=>arith mL a2 (.int 9223372036854775807 256) h (fun a3 h=>bM 1 v0 (.int 9223372036854775807 1) h (fun a4 h=>ao a4 h (fun a5 h=>cvI 9223372036854775807 a5 h (fun a6 h=>arith cg a3 a6 h (fun a7 h=>κn ⟨mR v0 a7,h⟩)))))))):=(cA (C:=CL mx) (ops:=opsOf (cAt [1,0] (bS (CL mx) 28))) (ps:=[0,2]) (by kernel_rfl) (by kernel_rfl) _ _ _).trans (by kernel_rfl)
theorem ajm:kc (CL mx) run lp (anu mx) ⟨mR v0 v2,h⟩ κn κx=κx .ret ⟨mR v0 v2,h⟩:=by kernel_rfl
theorem aab:kcE (CL mx) [.tmp 2] ⟨mR v0 v2,h⟩=some (.vh v2 h):=(bW _ _ _).trans (by kernel_rfl)
theorem arw:dz (CL mx) 28=some ⟨adk mx,[0,2],13,[.tmp 2]⟩:=by kernel_rfl
end
theorem anq (mx:Int) (run:Run) (lp:Lp) (x0:AV) (h:AH):dk (CL mx) run lp 28 [x0] h=vhO (kc (CL mx) run lp (adk mx) ⟨mR x0 .bot,h⟩ (kcE (CL mx) [.tmp 2]) (kcQ (CL mx) [.tmp 2])):=(bV (by kernel_rfl) (arw mx) (by kernel_rfl)).trans (by kernel_rfl)
def avn:=Du @agQ (Du @ahT (Du @ajm (@aab)))
end
section
variable {mx:Int} {h h' h1:AH} {S S':Nat→Prop} {Q:Option Rs→Prop} {κn:Kt} {κx:Ex→Kt} {b:List Nat} {bv:AV}
theorem bAt {d:AV} {bs:List Nat} {i c:Nat} (hd:cW h d (aI bs)) (hc:bs[i]? =some c): ∃p,(∀κ:Ka,bM 1 d (.int 9223372036854775807 (i:Int)) h κ=κ p h)∧ ∀κ:Ka,ao p h κ=κ (.int 255 (c:Int)) h:=by
 obtain ⟨p,p1,p2,p3⟩:=hd.idx (i:=i) (c:=.int 255 (c:Int)) (by unfold aI;rw [Bn,hc];rfl)
 exact ⟨p,p2 _,p3⟩
theorem amT (x y:Nat) (r:List Nat):be2 (x::y::r)=x*256+y:=by
 show (0*256+x)*256+y=_;omega
theorem wI {x:Int} {n:Nat} (e:x=(n:Int)) (hn:n≤1000000000):aQ 9223372036854775807 x=(n:Int):=by rw [e,bp (by omega) (by omega)]
theorem ahP (hb:cO bv (aI b)) (hd:By b) (hl:2≤b.length) (f:Nat):aL (fun r h'=>r=N64 (be2 b)∧h'=h) ((rl (CL mx) (f+1)).run 28 [bv] h):=by
 refine aL.runs (n:=f) (anq mx _ _ _ _) ?_;obtain ⟨x,y,r,rfl⟩: ∃x y r,b=x::y::r:=by
  match b,hl with
  |x::y::r,_=>exact ⟨x,y,r,rfl⟩
 have hx:x<256:=hd x (by simp);have hy:y<256:=hd y (by simp);obtain ⟨p0,i0,d0⟩:=bAt (hb.at h) (i:=0) (c:=x) rfl;obtain ⟨p1,i1,d1⟩:=bAt (hb.at h) (i:=1) (c:=y) rfl;have i0': ∀κ:Ka,bM 1 bv (.int 9223372036854775807 0) h κ=κ p0 h:=i0;have i1': ∀κ:Ka,bM 1 bv (.int 9223372036854775807 1) h κ=κ p1 h:=i1;have wx:aQ 9223372036854775807 (x:Int)=(x:Int):=wI rfl (by omega);have wy:aQ 9223372036854775807 (y:Int)=(y:Int):=wI rfl (by omega);have w1:aQ 9223372036854775807 ((x:Int)*256)=((x*256:Nat):Int):=wI (by simp) (by omega);have w2:aQ 9223372036854775807 (((x*256:Nat):Int)+(y:Int))=((x*256+y:Nat):Int):=wI (by simp) (by omega);simp only [sy,A7,seval,avn,i0',i1',d0,d1,wx,wy,w1,w2,aab];exact Ends.mk ⟨by rw [amT];rfl,rfl⟩
theorem jo (hb:cO bv (aI b)) (hd:By b) (hl:2≤b.length) (f:Nat) (h:AH):aH (CL mx) (rl (CL mx) (f+1)).run 28 [bv] h=some (N64 (be2 b),h):=by
 obtain ⟨r,h2,el,er,eh⟩:=aL.call (C:=CL mx) (ahP (mx:=mx) (h:=h) hb hd hl f);rw [er,eh] at el;exact el
def NmR (h:AH) (b:List Nat) (o:Option (kQ×List Nat)) (r:AV) (h':AH):Prop:=Old h h'∧match o with
 |none=>∃lv pv many,r= .tup [.agg [lv,pv],.int 9223372036854775807 many,.bool false]∧lv.plain=true∧pv.plain=true
 |some (x,rest)=>∃lv pv many,r= .tup [.agg [lv,pv],N64 many,.bool true]∧sL h' (fun b=>h.length≤b) lv pv x∧many≤b.length∧rest=b.drop many
def NmP (b:List Nat) (n1:Nat) (o:Option (kQ×List Nat)) (A:List (List Nat)) (h':AH) (lv pv:AV) (many:Int) (ok:Bool):Prop:=match o with
 |none=>ok=false∧lv.plain=true∧pv.plain=true
 |some (x,rest)=>ok=true∧ ∃m:Nat,many=(m:Int)∧m≤b.length∧rest=b.drop m∧pv= .int 9223372036854775807 x.ptr∧Ow1 h' (fun b=>n1≤b) lv (eS (A++x.labels))
theorem aj1 (hb:cO bv (aI b)) (hd:By b) (hbl:b.length≤1000) {H:AH} {b2 b5 y2 y5 n1:Nat} (h25:b2≠b5) (hn:n1=H.length) (hb2:b2<n1) (hb5:b5<n1) {u1 u2:AV} (e2:ab H b2=some (.cells [u1,u2] y2)) (D E:AV):
 ∀(k i:Nat) (A:List (List Nat)) (f:Nat) (hc:AH) (lv v7 w v t g v47:AV),i≤b.length→b.length-i<k→k+2≤f→Fx b5 H hc→ab hc b5=some (.cells [lv,.int 9223372036854775807 (-1)] y5)→Ow1 hc (fun b=>n1≤b) lv (eS A)→A.length+(b.length-i)≤1000→
  (∀h' lv pv many ok z v7 w v t g v47,(n1≤h'.length∧ ∀j,j<n1→j≠b2→j≠b5→ab h' j=ab H j)→ab h' b2=some (.cells [lv,pv] y2)→NmP b n1 (eJ k (b.drop i)) A h' lv pv many ok→Q (κx .ret ⟨dh bv (.pto b2 0) (.int 9223372036854775807 many) (.bool ok) (.pto b5 0) z v7 w v t g v47,h'⟩))→
  (eJ k (b.drop i)=none→ ∀h' lv z v7 w v t g v47,Fx b5 H h'→ab h' b5=some (.cells [lv,.int 9223372036854775807 (-1)] y5)→lv.plain=true→Q (κx (.exit 0) ⟨dh bv (.pto b2 0) D E (.pto b5 0) z v7 w v t g v47,h'⟩))→
  Q (kcR κn κx ((rl (CL mx) f).lp (ad0 mx) ⟨dh bv (.pto b2 0) D E (.pto b5 0) (N64 i) v7 w v t g v47,hc⟩)):=by
 have hlen: ∀(h':AH) (κ:Ka),bG bv h' κ=κ (N64 b.length) h':=fun h' κ=>by have:=hb.len h' κ;rwa [ba] at this
 intro k
 induction k with
 |zero=>intro i A f hc lv v7 w v t g v47 hi hk;omega
 |succ k ih=>
  intro i A f hc lv v7 w v t g v47 hi hk hf fx e5 ow hA kR kE;obtain ⟨f,rfl⟩:=fuel hf;have fx1:=fx.1;have pl:=ow.plain;have e2c:ab hc b2=_:=(fx.2 b2 (by omega) h25).trans e2;have ld5: ∀κ:Ka,aF 2 (.pto b5 0) hc κ=κ (.agg [lv,.int 9223372036854775807 (-1)]) hc:=fun κ=>bg (n:=2) e5 rfl κ
  have pn:aO [lv,.int 9223372036854775807 (-1)]=true:=by show and lv.plain (and true true)=true;rw [pl];rfl
  have st2: ∀κ:Ka,ay 2 (.pto b2 0) (.agg [lv,.int 9223372036854775807 (-1)]) hc κ=κ (.tup []) (hc.set b2 (some (.cells [lv,.int 9223372036854775807 (-1)] y2))):=fun κ=>bB (n:=2) (q:=[lv,.int 9223372036854775807 (-1)]) e2c rfl rfl pn κ
  have s2:n1≤(hc.set b2 (some (.cells [lv,.int 9223372036854775807 (-1)] y2))).length∧ ∀j,j<n1→j≠b2→j≠b5→ab (hc.set b2 (some (.cells [lv,.int 9223372036854775807 (-1)] y2))) j=ab H j:=⟨by rw [Bb];omega,fun j hj h2 h5=>by rw [ae (Ne.symm h2)];exact fx.2 j (by omega) h5⟩
  have g2:ab (hc.set b2 (some (.cells [lv,.int 9223372036854775807 (-1)] y2))) b2=some (.cells [lv,.int 9223372036854775807 (-1)] y2):=aq (by omega) _;refine de (ajR mx _) ?_
  by_cases hil:i<b.length
  ·obtain ⟨c,r,hcr⟩: ∃c r,b.drop i=c::r:=by
    cases e:b.drop i with
    |nil=>rw [Cs] at e;omega
    |cons c r=>exact ⟨c,r,rfl⟩
   have hci:b[i]? =some c:=by rw [←List.head?_drop,hcr];rfl
   have hr:r=b.drop (i+1):=by rw [←Bu,hcr];rfl
   have hc256:c<256:=hd c (Bg hci);obtain ⟨p,ip,dp⟩:=bAt (hb.at hc) hci;have wc:aQ 9223372036854775807 (c:Int)=(c:Int):=wI rfl (by omega);have g1:decide ((i:Int)<(b.length:Int))=true:=by rw [decide_eq_true_iff];omega
   rw [hcr] at kR kE;unfold eJ at kR kE
   by_cases h0:c=0
   ·subst h0
    rw [if_pos rfl] at kR kE;have w1:aQ 9223372036854775807 ((i:Int)+1)=((i+1:Nat):Int):=wI (by simp) (by omega);have d0:decide (((0:Nat):Int)=0)=true:=by decide
    simp only [sy,A7,seval,gF,hlen,n64,g1,ip,dp,wc,d0,e5,e2c,pl,w1];exact kR _ lv _ ((i+1:Nat):Int) true _ _ _ _ _ _ _ s2 g2 ⟨rfl,i+1,rfl,by omega,hr,rfl,by rw [Bx];exact ow.mono fun b hb hs=>⟨hs,by rw [ae (by omega)]⟩⟩
   rw [if_neg h0] at kR kE;have d0:decide ((c:Int)=0)=false:=by rw [decide_eq_false_iff_not];omega
   by_cases h1:192≤c
   ·rw [if_pos h1] at kR kE
    have d1:decide ((192:Int)≤(c:Int))=true:=by rw [decide_eq_true_iff];omega
    have w2:aQ 9223372036854775807 ((i:Int)+2)=((i+2:Nat):Int):=wI (by simp) (by omega)
    cases hr2:r with
    |nil=>
     rw [hr2] at kR kE;have hl:b.length≤i+1:=by rw [hr2] at hr;exact Cs.1 hr.symm
     have d2:decide ((b.length:Int)<((i+2:Nat):Int))=true:=by rw [decide_eq_true_iff];omega
     simp only [sy,A7,seval,gF,hlen,n64,g1,ip,dp,wc,d0,d1,w2,d2,e5,e2c,pl];exact kR _ lv _ 0 false _ _ _ _ _ _ _ s2 g2 ⟨rfl,pl,rfl⟩
    |cons d r2=>
     rw [hr2] at kR kE hr;have hdi:b[i+1]? =some d:=by rw [←List.head?_drop,←hr];rfl
     have hl:i+1<b.length:=(Bc.1 hdi).1;have hd256:d<256:=hd d (Bg hdi);obtain ⟨p2,ip2,dp2⟩:=bAt (hb.at hc) hdi;have d2:decide ((b.length:Int)<((i+2:Nat):Int))=false:=by rw [decide_eq_false_iff_not];omega
     have w3:aQ 9223372036854775807 ((c:Int)-192)=((c-192:Nat):Int):=wI (by omega) (by omega);have w4:aQ 9223372036854775807 (((c-192:Nat):Int)*256)=(((c-192)*256:Nat):Int):=wI (by simp) (by omega);have w5:aQ 9223372036854775807 ((i:Int)+1)=((i+1:Nat):Int):=wI (by simp) (by omega);have w6:aQ 9223372036854775807 (d:Int)=(d:Int):=wI rfl (by omega);have w7:aQ 9223372036854775807 ((((c-192)*256:Nat):Int)+(d:Int))=(((c-192)*256+d:Nat):Int):=wI (by simp) (by omega);obtain ⟨P,hP⟩: ∃P:Int,P=(((c-192)*256+d:Nat):Int):=⟨_,rfl⟩;rw [←hP] at w7;have e55:ab (hc.set b5 (some (.cells [lv,.int 9223372036854775807 P] y5))) b5=some (.cells [lv,.int 9223372036854775807 P] y5):=aq (by omega) _;have e25:ab (hc.set b5 (some (.cells [lv,.int 9223372036854775807 P] y5))) b2=some (.cells [u1,u2] y2):=by rw [ae (Ne.symm h25)];exact e2c
     simp only [sy,A7,seval,gF,hlen,n64,g1,ip,dp,wc,d0,d1,w2,d2,w3,w4,w5,ip2,dp2,w6,w7,e5,e55,e25,pl];refine kR _ lv (.int 9223372036854775807 P) ((i+2:Nat):Int) true _ _ _ _ _ _ _ ⟨by rw [Bb,Bb];omega,fun j hj h2 h5=>by rw [ae (Ne.symm h2),ae (Ne.symm h5)];exact fx.2 j (by omega) h5⟩ (aq (by rw [Bb];omega) _) ⟨rfl,i+2,rfl,by omega,?_,by rw [hP],by rw [Bx];exact ow.mono fun b hb hs=>⟨hs,by rw [ae (by omega),ae (by omega)]⟩⟩;rw [show i+2=(i+1)+1 from rfl,←Bu,←hr];rfl
   rw [if_neg h1] at kR kE;have d1:decide ((192:Int)≤(c:Int))=false:=by rw [decide_eq_false_iff_not];omega
   have lr:r.length=b.length-(i+1):=by rw [hr,Bi]
   have w1:aQ 9223372036854775807 ((i:Int)+1)=((i+1:Nat):Int):=wI (by simp) (by omega);have w3:aQ 9223372036854775807 (((i+1:Nat):Int)+(c:Int))=((i+1+c:Nat):Int):=wI (by simp) (by omega)
   by_cases h2:63<c∨r.length<c
   ·rw [if_pos h2] at kR kE
    by_cases h63:63<c
    ·have d2:decide ((63:Int)<(c:Int))=true:=by rw [decide_eq_true_iff];omega
     simp only [sy,A7,seval,gF,hlen,n64,g1,ip,dp,wc,d0,d1,d2,e5,e2c,pl];exact kR _ lv _ 0 false _ _ _ _ _ _ _ s2 g2 ⟨rfl,pl,rfl⟩
    ·have d2:decide ((63:Int)<(c:Int))=false:=by rw [decide_eq_false_iff_not];omega
     have d3:decide ((b.length:Int)<((i+1+c:Nat):Int))=true:=by rw [decide_eq_true_iff];omega
     simp only [sy,A7,seval,gF,hlen,n64,g1,ip,dp,wc,d0,d1,d2,w1,w3,d3,e5,e2c,pl];exact kR _ lv _ 0 false _ _ _ _ _ _ _ s2 g2 ⟨rfl,pl,rfl⟩
   ·rw [if_neg h2] at kR kE
    have d2:decide ((63:Int)<(c:Int))=false:=by rw [decide_eq_false_iff_not];omega
    have d3:decide ((b.length:Int)<((i+1+c:Nat):Int))=false:=by rw [decide_eq_false_iff_not];omega
    have hrd:r.drop c=b.drop (i+1+c):=by rw [hr,Bu]
    have hrt:(aI b).drop (i+1)=aI r:=by rw [jY,←hr]
    have hne:aI b≠[]:=fun e=>by have h2:=congrArg List.length e;rw [ba] at h2;exact absurd h2 (by show ¬b.length=0;omega)
    have sc: ∀(h:AH) (κ:Ka),slS 1 bv (some (.int 9223372036854775807 ((i+1:Nat):Int))) (some (.int 9223372036854775807 ((i+1+c:Nat):Int))) none h κ=κ (.slp (aI (r.take c)) c) h:=fun h κ=>by
     rw [hb.cut hne (l:=i+1) (u:=i+1+c) (by omega) (by rw [ba];omega),hrt,nB,show i+1+c-(i+1)=c by omega]
    have lb: ∀y∈r.take c,y<256:=fun y hy=>by
     have:=BX hy
     rw [hr] at this;exact hd y (BY this)
    have bs: ∀(h:AH) (κ:Ka),dD (.slp (aI (r.take c)) c) h κ=κ (.str (r.take c)) h:=fun h κ=>zk ((cO.mk (aI (r.take c)) (n:=c) (by rw [ba,Bq];omega)).at h) lb κ
    have ow2:Ow1 (hc++[some (.cells [.str (r.take c)] 0)]) (fun b=>n1≤b) lv (eS A):=ow.mono fun b hb hs=>⟨hs,ak hb _⟩
    have sx:cW (hc++[some (.cells [.str (r.take c)] 0)]) (.slo hc.length 0 1 1 1 true) [.str (r.take c)]:=.inr (.inr ⟨hc.length,0,1,[.str (r.take c)],0,true,rfl,aD _ _,rfl,by simp⟩);obtain ⟨lv',h',a1,a2,a3,a4⟩:=ow2.app (9+1) (by_:=16) (by decide) sx rfl (by rw [rK];omega);simp only [Nat.reduceAdd] at a1;have a3':=a3;rw [A7] at a3;simp only [Br,CK] at a3;have e5':ab h' b5=_:=(a4 b5 (by omega) (by rw [A7];omega)).trans ((ak (by omega) _).trans e5);have lh:(hc++[some (Blk.cells [.str (r.take c)] 0)]).length=hc.length+1:=by simp
    have dle:decide (hc.length+1≤h'.length)=true:=by rw [decide_eq_true_iff];omega
    have pl':=a2.plain;have w4:aQ 9223372036854775807 (1+(c:Int))=((1+c:Nat):Int):=wI (by simp) (by omega);have w5:aQ 9223372036854775807 ((i:Int)+((1+c:Nat):Int))=((i+1+c:Nat):Int):=wI (by simp;omega) (by omega);simp only [sy,A7,seval,gF,hlen,n64,g1,ip,dp,wc,d0,d1,d2,w1,w3,d3,ag1,e5,sc,bs,abU,a1,e5',pl',cq,ah,lh,dle];simp only [sy,A7,seval,aho,w4,w5];have fxs:Fx b5 H (h'.set b5 (some (.cells [lv',.int 9223372036854775807 (-1)] y5))):=by
     refine ⟨by rw [Bb];omega,fun j hj hn=>?_⟩
     rw [ae (Ne.symm hn),a4 j (by omega) (by rw [A7];omega),ak (by omega)]
     exact fx.2 j hj hn
    rw [hrd] at kR kE;have ih':=ih (i+1+c) (A++[r.take c]) (f+(k+1+1)) (h'.set b5 (some (.cells [lv',.int 9223372036854775807 (-1)] y5))) lv' (N64 c) (.bool true) (.bool false) (.bool false) g (.bool false) (by omega) (by omega) (by omega) fxs (aq (by omega) _) (by
     rw [ya];refine a2.mono fun b hb hs=>⟨?_,?_⟩
     ·rcases hs with hs|hs
      ·exact hs
      ·omega
     ·rw [ae]
      rcases hs with hs|hs<;>omega) (by rw [A7];simp;omega) (fun h' lv pv many ok z v7 w v t g v47 q1 q2 q3=>by
      refine kR h' lv pv many ok z v7 w v t g v47 q1 q2 ?_
      cases e:eJ k (b.drop (i+1+c)) with
      |none=>rw [e] at q3;exact q3
      |some xr=>
       obtain ⟨x,r'⟩:=xr;rw [e] at q3;obtain ⟨z1,m,z2,z3,z4,z5,z6⟩:=q3;exact ⟨z1,m,z2,z3,z4,z5,by rw [BJ] at z6;exact z6⟩) (fun e=>kE (by rw [e]))
    exact ih'
  ·have hnil:b.drop i=[]:=Cs.2 (by omega)
   have g1:decide ((i:Int)<(b.length:Int))=false:=by rw [decide_eq_false_iff_not];omega
   simp only [sy,A7,seval,gF,hlen,n64,g1];exact kE (by rw [hnil];rfl) hc lv _ _ _ _ _ _ _ fx e5 pl
theorem xU (hb:cO bv (aI b)) (hd:By b) (hbl:b.length≤1000) (f:Nat) (hf:1100≤f):aL (NmR h b (eJ (b.length+1) b)) ((rl (CL mx) f).run 29 [bv] h):=by
 obtain ⟨f,rfl⟩:=fuel hf;refine aL.runs (n:=f+1099) (alf mx _ _ _ _) ?_;obtain ⟨y,hy⟩: ∃y:Nat,y=47+1:=⟨_,rfl⟩;obtain ⟨B2,hB2⟩: ∃B,B=Blk.cells [.aa,.int 9223372036854775807 0] y:=⟨_,rfl⟩;obtain ⟨B3,hB3⟩: ∃B,B=Blk.cells [.aa,.int 9223372036854775807 (-1)] y:=⟨_,rfl⟩;have s2:=hB2;rw [hy] at s2;simp only [Nat.reduceAdd] at s2;obtain ⟨H2,hH2⟩: ∃H,H=h++[some B2]:=⟨_,rfl⟩;obtain ⟨H3,hH3⟩: ∃H,H=H2++[some B3]:=⟨_,rfl⟩;have l2:H2.length=h.length+1:=by rw [hH2];simp
 have l3:H3.length=h.length+2:=by rw [hH3,A7,l2];rfl
 have o3:Old h H3:=by rw [hH3,hH2];exact (Old.rfl.app _).app _
 have b2:ab H3 h.length=some (.cells [.aa,.int 9223372036854775807 0] y):=by rw [hH3,ak (by omega),hH2,aD,hB2]
 have b3:ab H3 H2.length=some (.cells [.aa,.int 9223372036854775807 (-1)] y):=by rw [hH3,aD,hB3]
 have z3: ∀κ:Ka,ay 2 (.pto H2.length 0) (.agg [.aa,.int 9223372036854775807 (-1)]) (H2++[some B2]) κ=κ (.tup []) H3:=fun κ=>by rw [hH3,hB3,hB2];exact bD rfl rfl rfl
 have bl: ∀(h:AH) (κ:Ka),dX (placeOf (CL mx) [(0,45),(1,3)]) [.aa,.int 9223372036854775807 0] [(1,(.int 9223372036854775807 (-1)))] h κ=κ (.agg [.aa,.int 9223372036854775807 (-1)]) h:=fun h κ=>cZ (by kernel_rfl)
 rw [ajH];simp only [eB,←s2,←hH2];refine wEq (bl _ _) ?_;refine wEq (z3 _) ?_;refine wEq (aht ..) ?_;have en: ∀(h':AH) (lv pv:AV) (many:Int) (ok:Bool) z v7 w v t g v47,(H3.length≤h'.length∧ ∀j,j<H3.length→j≠h.length→j≠H2.length→ab h' j=ab H3 j)→ab h' h.length=some (.cells [lv,pv] y)→NmP b H3.length (eJ (b.length+1) b) [] h' lv pv many ok→Ends (NmR h b (eJ (b.length+1) b)) (kcE (CL mx) [.cell 2 47,.tmp 3,.tmp 4] ⟨dh bv (.pto h.length 0) (.int 9223372036854775807 many) (.bool ok) (.pto H2.length 0) z v7 w v t g v47,h'⟩):=by
  intro h' lv pv many ok z v7 w v t g v47 q1 q2 q3;rw [akb];refine wEq (bg (n:=2) q2 rfl _) ?_;refine Ends.mk ⟨⟨by omega,fun i hi=>(q1.2 i (by omega) (by omega) (by omega)).trans (o3.2 i hi)⟩,?_⟩
  cases e:eJ (b.length+1) b with
  |none=>
   rw [e] at q3;obtain ⟨rfl,p1,p2⟩:=q3;exact ⟨lv,pv,many,rfl,p1,p2⟩
  |some xr=>
   obtain ⟨x,r⟩:=xr;rw [e] at q3;obtain ⟨rfl,m,rfl,z3,z4,z5,z6⟩:=q3;exact ⟨lv,pv,m,rfl,⟨z5,z6.mono fun b hb hs=>⟨by omega,rfl⟩⟩,z3,z4⟩
 refine aj1 (mx:=mx) hb hd hbl (H:=H3) (b2:=h.length) (b5:=H2.length) (y2:=y) (y5:=y) (n1:=H3.length) (by omega) rfl (by omega) (by omega) b2 _ _ (b.length+1) 0 [] _ H3 .aa _ _ _ _ _ _ (by omega) (by omega) (by omega) Fx.rfl b3 (.inl ⟨rfl,rfl⟩) (by simp;omega) (fun h' lv pv many ok z v7 w v t g v47 q1 q2 q3=>?_) (fun e h' lv z v7 w v t g v47 fx e5 pl=>?_)
 ·rw [vY,iQ]
  exact en h' lv pv many ok _ _ _ _ _ _ _ q1 q2 q3
 ·have fx1:=fx.1
  simp only [mW,decide_true,bqT];refine wEq (ajx ..) ?_;refine wEq (bg (n:=2) e5 rfl _) ?_;have c2:ab h' h.length=_:=(fx.2 h.length (by omega) (by omega)).trans b2;refine wEq (bB (n:=2) (q:=[lv,.int 9223372036854775807 (-1)]) c2 rfl rfl (by show and lv.plain (and true true)=true;rw [pl];rfl) _) ?_;rw [iQ];rw [BF] at e;refine en _ lv _ 0 false _ _ _ _ _ _ _ ⟨by rw [Bb];omega,fun j hj h1 h2=>by rw [ae (Ne.symm h1)];exact fx.2 j (by omega) h2⟩ (aq (by omega) _) ?_;rw [e];exact ⟨rfl,pl,rfl⟩
end
noncomputable section
def ax (v0 v2 v3 Z v5 W v7 Y v9 v10 v11 I D E G T U O J H P v76 V R M t g:AV):Tm:=(.nd 14 (.nd 7 (.nd 4 (.nd 2 (.lf 0 v0) (.nd 3 (.lf 2 v2) (.lf 3 v3))) (.nd 5 (.lf 4 Z) (.nd 6 (.lf 5 v5) (.lf 6 W)))) (.nd 10 (.nd 8 (.lf 7 v7) (.nd 9 (.lf 8 Y) (.lf 9 v9))) (.nd 12 (.nd 11 (.lf 10 v10) (.lf 11 v11)) (.nd 13 (.lf 12 I) (.lf 13 D))))) (.nd 75 (.nd 33 (.nd 15 (.lf 14 E) (.nd 18 (.lf 15 G) (.lf 18 T))) (.nd 35 (.nd 34 (.lf 33 U) (.lf 34 O)) (.nd 50 (.lf 35 J) (.lf 50 H)))) (.nd 84 (.nd 76 (.lf 75 P) (.nd 83 (.lf 76 v76) (.lf 83 V))) (.nd 100 (.nd 85 (.lf 84 R) (.lf 85 M)) (.nd 112 (.lf 100 t) (.lf 112 g))))))
def ada (mx:Int):K:=kAt [] (kOf (CL mx) 9)
def apa (mx:Int):K:=kAt [1,1,1,0] (kOf (CL mx) 9)
def apd (mx:Int):K:=kAt [1,1,1,1] (kOf (CL mx) 9)
def apq (mx:Int):K:=kAt [1,1,1,1,1,0] (kOf (CL mx) 9)
def aoO (mx:Int):K:=kAt [1,1,1,1,1,1] (kOf (CL mx) 9)
def adq (mx:Int):K:=kAt [1,1,1,1,1,0,1,0,0] (kOf (CL mx) 9)
def aoi (mx:Int):K:=kAt [1,1,1,1,1,1,0] (kOf (CL mx) 9)
def akO (mx:Int):K:=kAt [1,1,1,1,1,1,1] (kOf (CL mx) 9)
def aj4 (mx:Int):K:=kAt [1,1,1,1,1,0,1,0,0,1,1,0] (kOf (CL mx) 9)
def alD (mx:Int):K:=kAt [1,1,1,1,1,0,1,0,0,1,1,1] (kOf (CL mx) 9)
def tW (mx:Int):K:=kAt [1,1,1,1,1,1,0,1,0,0] (kOf (CL mx) 9)
def afB (mx:Int):K:=kAt [1,1,1,1,1,0,1,0,0,1,1,0,0,1,1,0] (kOf (CL mx) 9)
def aff (mx:Int):K:=kAt [1,1,1,1,1,0,1,0,0,1,1,0,0,1,1,1] (kOf (CL mx) 9)
def agd (mx:Int):K:=kAt [1,1,1,1,1,1,0,1,0,0,1,1,0] (kOf (CL mx) 9)
def aex (mx:Int):K:=kAt [1,1,1,1,1,1,0,1,0,0,1,1,1] (kOf (CL mx) 9)
def yT (mx:Int):K:=kAt [1,1,1,1,1,1,0,1,0,0,1,1,0,0,1,1,0,0] (kOf (CL mx) 9)
def aeE (mx:Int):K:=kAt [1,1,1,1,1,1,0,1,0,0,1,1,0,0,1,1,0,0,1,1,0] (kOf (CL mx) 9)
def aeS (mx:Int):K:=kAt [1,1,1,1,1,1,0,1,0,0,1,1,0,0,1,1,0,0,1,1,1] (kOf (CL mx) 9)
def afb (mx:Int):K:=kAt [1,1,1,1,1,1,0,1,0,0,1,1,0,0,1,1,0,0,1,1,0,0,1,1,1,1,1,0] (kOf (CL mx) 9)
def af4 (mx:Int):K:=kAt [1,1,1,1,1,1,0,1,0,0,1,1,0,0,1,1,0,0,1,1,0,0,1,1,1,1,1,1] (kOf (CL mx) 9)
def afy (mx:Int):K:=kAt [1,1,1,1,1,1,0,1,0,0,1,1,0,0,1,1,0,0,1,1,0,0,1,1,1,1,1,1,0] (kOf (CL mx) 9)
def agr (mx:Int):K:=kAt [1,1,1,1,1,1,0,1,0,0,1,1,0,0,1,1,0,0,1,1,0,0,1,1,1,1,1,1,1] (kOf (CL mx) 9)
section
set_option maxRecDepth 100000
variable (mx:Int) (run:Run) (lp:Lp) (κn:Kt) (κx:Ex→Kt) (h:AH) (v0 v2 v3 Z v5 W v7 Y v9 v10 v11 I D E G T U O J H P v76 V R M t g:AV)
theorem air:kc (CL mx) run lp (ada mx) ⟨ax v0 v2 v3 Z v5 W v7 Y v9 v10 v11 I D E G T U O J H P v76 V R M t g,h⟩ κn κx=cU h (.cells [.int 65535 0,.int 65535 0,.aa,.aa,.aa,.aa] 30) (fun a0 h=>cU h (.cells [.int 65535 0,.int 65535 0,.aa,.aa,.aa,.aa] 30) (fun a1 h=>bG v0 h (fun a2 h=>cmp ilt a2 (.int 9223372036854775807 12) h (fun a3 h=>bJ a3 (aF 6 a1 h (fun a4 h=>ay 6 a0 a4 h (fun a5 h=>κx .ret ⟨ax v0 a0 (.bool false) a1 v5 W v7 Y v9 v10 v11 I D E G a3 U O J H P v76 V R M t g,h⟩))) (kc (CL mx) run lp (apa mx) ⟨ax v0 a0 (.bool false) a1 v5 W v7 Y v9 v10 v11 I D E G a3 U O J H P v76 V R M t g,h⟩ (fun s=>kc (CL mx) run lp (apd mx) s κn κx) κx))))):=by kernel_rfl
theorem agS:kc (CL mx) run lp (apa mx) ⟨ax v0 v2 v3 Z v5 W v7 Y v9 v10 v11 I D E G T U O J H P v76 V R M t g,h⟩ κn κx=aP (fun a0 h1=>bq (Nat.ble (ag h) (ag h1)) ((fun h=>cvI 65535 a0 h (fun a1 h1=>bq (AV.lt (ag h) a1) ((fun h=>aW v0 h (fun a2 h1=>bq (AV.lt (ag h) a2) ((fun h=>slS 1 a2 (some (.int 9223372036854775807 2)) none none h (fun a3 h1=>bq (AV.lt (ag h) a3) ((fun h=>aP (fun a4 h1=>bq (Nat.ble (ag h) (ag h1)) ((fun h=>cvI 65535 a4 h (fun a5 h1=>bq (AV.lt (ag h) a5) ((fun h=>aj 0 Z h (fun a6 h1=>bq (AV.lt (ag h) a6) ((fun h=>bQ a6 a1 h (fun a7 h1=>bq (Nat.ble (ag h) (ag h1)) ((fun h=>aj 1 Z h (fun a8 h=>bQ a8 a5 h (fun a9 h1=>bq (Nat.ble (ag h) (ag h1)) ((fun h=>κn ⟨ax v0 v2 v3 Z v5 W v7 Y v9 v10 v11 I D E G T U O J H P v76 V R M t g,h⟩) h1) none))) h1) none)) h1) none)) h1) none)) h1) none) (aH (CL mx) run 28 [a3] h)) h1) none)) h1) none)) h1) none)) h1) none) (aH (CL mx) run 28 [v0] h):=(cA (C:=CL mx) (ops:=opsOf (cAt [1,1,1,0] (bS (CL mx) 9))) (ps:=[0,2,3,4,5,6,7,8,9,10,11,12,13,14,15,18,33,34,35,50,75,76,83,84,85,100,112]) (by kernel_rfl) (by kernel_rfl) _ _ _).trans (by kernel_rfl)
theorem ahK:kc (CL mx) run lp (apd mx) ⟨ax v0 v2 v3 Z v5 W v7 Y v9 v10 v11 I D E G T U O J H P v76 V R M t g,h⟩ κn κx=slS 1 v0 (some (.int 9223372036854775807 12)) none none h (fun a0 h=>kc (CL mx) run lp (apq mx) ⟨ax v0 v2 v3 Z a0 W v7 Y v9 v10 v11 I D E G T U O J H P v76 V R M t g,h⟩ (fun s=>kc (CL mx) run lp (aoO mx) s κn κx) κx):=by kernel_rfl
theorem aju:kc (CL mx) run lp (apq mx) ⟨ax v0 v2 v3 Z v5 W v7 Y v9 v10 v11 I D E G T U O J H P v76 V R M t g,h⟩ κn κx=slS 1 v0 (some (.int 9223372036854775807 4)) none none h (fun a0 h=>aP (fun a1 h=>kcR κn (kcO 0 κn κx) (lp (adq mx) ⟨ax v0 v2 v3 Z v5 W v7 Y v9 v10 v11 I D E G T a1 (.int 9223372036854775807 0) J H P v76 V R M t g,h⟩)) (aH (CL mx) run 28 [a0] h)):=by kernel_rfl
theorem agR:kc (CL mx) run lp (aoO mx) ⟨ax v0 v2 v3 Z v5 W v7 Y v9 v10 v11 I D E G T U O J H P v76 V R M t g,h⟩ κn κx=kc (CL mx) run lp (aoi mx) ⟨ax v0 v2 v3 Z v5 W v7 Y v9 v10 v11 I D E G T U O J H P v76 V R M t g,h⟩ (fun s=>kc (CL mx) run lp (akO mx) s κn κx) κx:=by kernel_rfl
theorem ot:kc (CL mx) run lp (adq mx) ⟨ax v0 v2 v3 Z v5 W v7 Y v9 v10 v11 I D E G T U O J H P v76 V R M t g,h⟩ κn κx=cmp ilt O U h (fun a0 h=>bJ a0 (kc (CL mx) run lp (aj4 mx) ⟨ax v0 v2 v3 Z v5 W v7 Y v9 v10 v11 I D E G T U O a0 H P v76 V R M t g,h⟩ (fun s=>kc (CL mx) run lp (alD mx) s κn κx) κx) (κx (.exit 0) ⟨ax v0 v2 v3 Z v5 W v7 Y v9 v10 v11 I D E G T U O a0 H P v76 V R M t g,h⟩)):=by kernel_rfl
theorem aif:kc (CL mx) run lp (aoi mx) ⟨ax v0 v2 v3 Z v5 W v7 Y v9 v10 v11 I D E G T U O J H P v76 V R M t g,h⟩ κn κx=kcR κn (kcO 2 κn κx) (lp (tW mx) ⟨ax v0 v2 v3 Z v5 W v7 Y v9 v10 v11 I D E G T U O J H (.int 9223372036854775807 0) v76 V R M t g,h⟩):=by kernel_rfl
theorem aja:kc (CL mx) run lp (akO mx) ⟨ax v0 v2 v3 Z v5 W v7 Y v9 v10 v11 I D E G T U O J H P v76 V R M t g,h⟩ κn κx=aF 6 Z h (fun a0 h=>bG v5 h (fun a1 h=>cmp cD a1 (.int 9223372036854775807 0) h (fun a2 h=>ay 6 v2 a0 h (fun a3 h=>κx .ret ⟨ax v0 v2 a2 Z v5 W v7 Y v9 v10 v11 I D E G T U O J H P v76 V R M t g,h⟩)))):=by kernel_rfl
theorem rN:kc (CL mx) run lp (aj4 mx) ⟨ax v0 v2 v3 Z v5 W v7 Y v9 v10 v11 I D E G T U O J H P v76 V R M t g,h⟩ κn κx=aP (fun a0 h=>fu 0 a0 h (fun a1 h=>fu 1 a0 h (fun a2 h=>fu 2 a0 h (fun a3 h=>cU h (.cells [.aa,.int 9223372036854775807 0] 48) (fun a4 h=>ay 2 a4 a1 h (fun a5 h=>oE a3 h (fun a6 h=>aC a6 false (fun κ=>aW v5 h κ) h (fun a7 h=>aC a6 false (fun κ=>bG a7 h κ) h (fun a8 h=>aC a6 false (fun κ=>aW a2 h κ) h (fun a9 h=>aC a6 false (fun κ=>arith cg a9 (.int 9223372036854775807 4) h κ) h (fun a10 h=>aC a6 false (fun κ=>cmp ilt a8 a10 h κ) h (fun a11 h=>fw a6 (.bool true) a11 h (fun a12 h=>bJ a12 (aF 6 Z h (fun a13 h=>ay 6 v2 a13 h (fun a14 h=>κx .ret ⟨ax v0 v2 (.bool false) Z v5 a4 a2 a3 v9 v10 v11 I D E G T U O J a12 P v76 V R M t g,h⟩))) (kc (CL mx) run lp (afB mx) ⟨ax v0 v2 v3 Z v5 a4 a2 a3 v9 v10 v11 I D E G T U O J a12 P v76 V R M t g,h⟩ (fun s=>kc (CL mx) run lp (aff mx) s κn (kcO 1 κn κx)) (kcO 1 κn κx))))))))))))))) (aH (CL mx) run 29 [v5] h):=by kernel_rfl
theorem ahR:kc (CL mx) run lp (alD mx) ⟨ax v0 v2 v3 Z v5 W v7 Y v9 v10 v11 I D E G T U O J H P v76 V R M t g,h⟩ κn κx=arith cg O (.int 9223372036854775807 1) h (fun a0 h=>κn ⟨ax v0 v2 v3 Z v5 W v7 Y v9 v10 v11 I D E G T U a0 J H P v76 V R M t g,h⟩):=by kernel_rfl
theorem vE:kc (CL mx) run lp (tW mx) ⟨ax v0 v2 v3 Z v5 W v7 Y v9 v10 v11 I D E G T U O J H P v76 V R M t g,h⟩ κn κx=cmp ilt P (.int 9223372036854775807 3) h (fun a0 h=>bJ a0 (kc (CL mx) run lp (agd mx) ⟨ax v0 v2 v3 Z v5 W v7 Y v9 v10 v11 I D E G T U O J H P a0 V R M t g,h⟩ (fun s=>kc (CL mx) run lp (aex mx) s κn κx) κx) (κx (.exit 2) ⟨ax v0 v2 v3 Z v5 W v7 Y v9 v10 v11 I D E G T U O J H P a0 V R M t g,h⟩)):=by kernel_rfl
theorem acD:kc (CL mx) run lp (afB mx) ⟨ax v0 v2 v3 Z v5 W v7 Y v9 v10 v11 I D E G T U O J H P v76 V R M t g,h⟩ κn κx=kcR κn κx ((fun tt=>dr (sRd [] h (aj 2 Z h kVH) fun r0=>sRd [r0.v] r0.h' (ao r0.v r0.h' kVH) fun r1=>sRd [r1.v,r0.v] r1.h' (aF 2 W r1.h' kVH) fun r2=>sRd [r2.v,r1.v,r0.v] r2.h' (aW v5 r2.h' kVH) fun r3=>sRd [r3.v,r2.v,r1.v,r0.v] r3.h' (aW v7 r3.h' kVH) fun r4=>sRd [r4.v,r3.v,r2.v,r1.v,r0.v] r4.h' (slS 1 r3.v (some r4.v) none none r4.h' kVH) fun r5=>sEf [r5.v,r4.v,r3.v,r2.v,r1.v,r0.v] r5.h' (aP kVH (aH (CL mx) run 28 [r5.v] r5.h')) fun r6=>sRd [r6.v,r5.v,r4.v,r3.v,r2.v,r1.v,r0.v] r6.h' (cvI 65535 r6.v r6.h' kVH) fun r7=>sRd [r7.v,r6.v,r5.v,r4.v,r3.v,r2.v,r1.v,r0.v] r7.h' (aW v5 r7.h' kVH) fun r8=>sRd [r8.v,r7.v,r6.v,r5.v,r4.v,r3.v,r2.v,r1.v,r0.v] r8.h' (aW v7 r8.h' kVH) fun r9=>sRd [r9.v,r8.v,r7.v,r6.v,r5.v,r4.v,r3.v,r2.v,r1.v,r0.v] r9.h' (arith cg r9.v (.int 9223372036854775807 2) r9.h' kVH) fun r10=>sRd [r10.v,r9.v,r8.v,r7.v,r6.v,r5.v,r4.v,r3.v,r2.v,r1.v,r0.v] r10.h' (slS 1 r8.v (some r10.v) none none r10.h' kVH) fun r11=>sEf [r11.v,r10.v,r9.v,r8.v,r7.v,r6.v,r5.v,r4.v,r3.v,r2.v,r1.v,r0.v] r11.h' (aP kVH (aH (CL mx) run 28 [r11.v] r11.h')) fun r12=>sRd [r12.v,r11.v,r10.v,r9.v,r8.v,r7.v,r6.v,r5.v,r4.v,r3.v,r2.v,r1.v,r0.v] r12.h' (cvI 65535 r12.v r12.h' kVH) fun r13=>sRd [r13.v,r12.v,r11.v,r10.v,r9.v,r8.v,r7.v,r6.v,r5.v,r4.v,r3.v,r2.v,r1.v,r0.v] r13.h' (dX (placeOf (CL mx) [(0,47),(2,24),(3,24)]) [.aa,.int 9223372036854775807 0,.int 65535 0,.int 65535 0] [(0,r2.v),(1,r7.v),(2,r13.v)] r13.h' kVH) fun r14=>sMk [r14.v,r13.v,r12.v,r11.v,r10.v,r9.v,r8.v,r7.v,r6.v,r5.v,r4.v,r3.v,r2.v,r1.v,r0.v] r14.h' (fun h=>fA 4 1 [.aa,.int 9223372036854775807 0,.int 65535 0,.int 65535 0] [(0,r14.v)] h kVH) fun r15=>sEf [r15.v,r14.v,r13.v,r12.v,r11.v,r10.v,r9.v,r8.v,r7.v,r6.v,r5.v,r4.v,r3.v,r2.v,r1.v,r0.v] r15.h' (gg 50 4 40 r1.v r15.v r15.h' kVH) fun r16=>sRd [r16.v,r15.v,r14.v,r13.v,r12.v,r11.v,r10.v,r9.v,r8.v,r7.v,r6.v,r5.v,r4.v,r3.v,r2.v,r1.v,r0.v] r16.h' (aj 2 Z r16.h' kVH) fun r17=>sEf [r17.v,r16.v,r15.v,r14.v,r13.v,r12.v,r11.v,r10.v,r9.v,r8.v,r7.v,r6.v,r5.v,r4.v,r3.v,r2.v,r1.v,r0.v] r17.h' (bQ r17.v r16.v r17.h' kVH) fun r18=>bq (and (aG r0 (OK.f (.mk (o1 (aj 2) (.tr 4))) (CL mx) run r0.σ tt (aN (ag r0.h) r6.h') kVH)) (and (aG r1 (OK.f (.mk (o1 ao (.st 0))) (CL mx) run r1.σ tt (aN (ag r1.h) r6.h') kVH)) (and (aG r2 (OK.f (.mk (o1 (aF 2) (.tr 6))) (CL mx) run r2.σ tt (aN (ag r2.h) r6.h') kVH)) (and (aG r8 (OK.f (.mk (o1 aW (.tr 5))) (CL mx) run r8.σ tt (aN (ag r8.h) r6.h) kVH)) (and (aG r9 (OK.f (.mk (o1 aW (.tr 7))) (CL mx) run r9.σ tt (aN (ag r9.h) r6.h) kVH)) (and (aG r10 (OK.f (.mk (o2 (arith cg) (.st 0) (.cst (.int 9223372036854775807 2)))) (CL mx) run r10.σ tt (aN (ag r10.h) r6.h) kVH)) (and (aG r11 (OK.f (.mk (qU 1 (.st 2) (some (.st 0)) none none)) (CL mx) run r11.σ tt (aN (ag r11.h) r6.h) kVH)) (and (aG r0 (OK.f (.mk (o1 (aj 2) (.tr 4))) (CL mx) run r0.σ tt (aN (ag r0.h) r12.h') kVH)) (and (aG r1 (OK.f (.mk (o1 ao (.st 0))) (CL mx) run r1.σ tt (aN (ag r1.h) r12.h') kVH)) (and (aG r2 (OK.f (.mk (o1 (aF 2) (.tr 6))) (CL mx) run r2.σ tt (aN (ag r2.h) r12.h') kVH)) (and (aG r7 (OK.f (.mk (o1 (cvI 65535) (.st 0))) (CL mx) run r7.σ tt (aN (ag r7.h) r12.h') kVH)) (true)))))))))))) (some (.st tt r18.h')) none)) (ax v0 v2 v3 Z v5 W v7 Y v9 v10 v11 I D E G T U O J H P v76 V R M t g)):=(eW (C:=CL mx) [1,1,1,1,1,0,1,0,0,1,1,0,0,1,1,0] 9 [0,2,3,4,5,6,7,8,9,10,11,12,13,14,15,18,33,34,35,50,75,76,83,84,85,100,112] (by kernel_rfl) _ _ _).trans (by kernel_rfl)
theorem adt:kc (CL mx) run lp (aff mx) ⟨ax v0 v2 v3 Z v5 W v7 Y v9 v10 v11 I D E G T U O J H P v76 V R M t g,h⟩ κn κx=arith cg v7 (.int 9223372036854775807 4) h (fun a0 h=>slS 1 v5 (some a0) none none h (fun a1 h=>κn ⟨ax v0 v2 v3 Z a1 W v7 Y v9 v10 v11 I D E G T U O J H P v76 V R M t g,h⟩)):=by kernel_rfl
theorem acd:kc (CL mx) run lp (agd mx) ⟨ax v0 v2 v3 Z v5 W v7 Y v9 v10 v11 I D E G T U O J H P v76 V R M t g,h⟩ κn κx=arith mL (.int 9223372036854775807 2) P h (fun a0 h=>arith cg (.int 9223372036854775807 6) a0 h (fun a1 h=>slS 1 v0 (some a1) none none h (fun a2 h=>aP (fun a3 h=>kcR κn (kcO 4 κn (kcO 3 κn κx)) (lp (yT mx) ⟨ax v0 v2 v3 Z v5 W v7 Y P v10 v11 I D E G T U O J H P v76 a3 (.int 9223372036854775807 0) M t g,h⟩)) (aH (CL mx) run 28 [a2] h)))):=by kernel_rfl
theorem acw:kc (CL mx) run lp (aex mx) ⟨ax v0 v2 v3 Z v5 W v7 Y v9 v10 v11 I D E G T U O J H P v76 V R M t g,h⟩ κn κx=arith cg P (.int 9223372036854775807 1) h (fun a0 h=>κn ⟨ax v0 v2 v3 Z v5 W v7 Y v9 v10 v11 I D E G T U O J H a0 v76 V R M t g,h⟩):=by kernel_rfl
theorem jv:kc (CL mx) run lp (yT mx) ⟨ax v0 v2 v3 Z v5 W v7 Y v9 v10 v11 I D E G T U O J H P v76 V R M t g,h⟩ κn κx=cmp ilt R V h (fun a0 h=>bJ a0 (kc (CL mx) run lp (aeE mx) ⟨ax v0 v2 v3 Z v5 W v7 Y v9 v10 v11 I D E G T U O J H P v76 V R a0 t g,h⟩ (fun s=>kc (CL mx) run lp (aeS mx) s κn κx) κx) (κx (.exit 4) ⟨ax v0 v2 v3 Z v5 W v7 Y v9 v10 v11 I D E G T U O J H P v76 V R a0 t g,h⟩)):=by kernel_rfl
theorem lY:kc (CL mx) run lp (aeE mx) ⟨ax v0 v2 v3 Z v5 W v7 Y v9 v10 v11 I D E G T U O J H P v76 V R M t g,h⟩ κn κx=aP (fun a0 h=>fu 0 a0 h (fun a1 h=>fu 1 a0 h (fun a2 h=>fu 2 a0 h (fun a3 h=>cU h (.cells [.aa,.int 9223372036854775807 0] 48) (fun a4 h=>ay 2 a4 a1 h (fun a5 h=>oE a3 h (fun a6 h=>aC a6 false (fun κ=>aW v5 h κ) h (fun a7 h=>aC a6 false (fun κ=>bG a7 h κ) h (fun a8 h=>aC a6 false (fun κ=>aW a2 h κ) h (fun a9 h=>aC a6 false (fun κ=>arith cg a9 (.int 9223372036854775807 10) h κ) h (fun a10 h=>aC a6 false (fun κ=>cmp ilt a8 a10 h κ) h (fun a11 h=>fw a6 (.bool true) a11 h (fun a12 h=>bJ a12 (aF 6 Z h (fun a13 h=>ay 6 v2 a13 h (fun a14 h=>κx .ret ⟨ax v0 v2 (.bool false) Z v5 W v7 Y v9 a4 a2 a3 D E G T U O J H P v76 V R M a12 g,h⟩))) (slS 1 v5 (some a2) none none h (fun a13 h=>slS 1 a13 (some (.int 9223372036854775807 8)) none none h (fun a14 h=>aP (fun a15 h=>bG a13 h (fun a16 h=>arith cg (.int 9223372036854775807 10) a15 h (fun a17 h=>cmp ilt a16 a17 h (fun a18 h=>bJ a18 (aF 6 Z h (fun a19 h=>ay 6 v2 a19 h (fun a20 h=>κx .ret ⟨ax v0 v2 (.bool false) Z v5 W v7 Y v9 a4 a2 a3 a13 a15 G T U O J H P v76 V R M a12 a18,h⟩))) (kc (CL mx) run lp (afb mx) ⟨ax v0 v2 v3 Z v5 W v7 Y v9 a4 a2 a3 a13 a15 G T U O J H P v76 V R M a12 a18,h⟩ (fun s=>kc (CL mx) run lp (af4 mx) s κn (kcO 5 κn κx)) (kcO 5 κn κx)))))) (aH (CL mx) run 28 [a14] h))))))))))))))))) (aH (CL mx) run 29 [v5] h):=by kernel_rfl
theorem aek:kc (CL mx) run lp (aeS mx) ⟨ax v0 v2 v3 Z v5 W v7 Y v9 v10 v11 I D E G T U O J H P v76 V R M t g,h⟩ κn κx=arith cg R (.int 9223372036854775807 1) h (fun a0 h=>κn ⟨ax v0 v2 v3 Z v5 W v7 Y v9 v10 v11 I D E G T U O J H P v76 V a0 M t g,h⟩):=by kernel_rfl
theorem acf:kc (CL mx) run lp (afb mx) ⟨ax v0 v2 v3 Z v5 W v7 Y v9 v10 v11 I D E G T U O J H P v76 V R M t g,h⟩ κn κx=kcR κn κx ((fun tt=>dr (sRd [] h (aF 2 v10 h kVH) fun r0=>sRd [r0.v] r0.h' (aW D r0.h' kVH) fun r1=>sEf [r1.v,r0.v] r1.h' (aP kVH (aH (CL mx) run 28 [r1.v] r1.h')) fun r2=>sRd [r2.v,r1.v,r0.v] r2.h' (cvI 65535 r2.v r2.h' kVH) fun r3=>sRd [r3.v,r2.v,r1.v,r0.v] r3.h' (aW D r3.h' kVH) fun r4=>sRd [r4.v,r3.v,r2.v,r1.v,r0.v] r4.h' (slS 1 r4.v (some (.int 9223372036854775807 2)) none none r4.h' kVH) fun r5=>sEf [r5.v,r4.v,r3.v,r2.v,r1.v,r0.v] r5.h' (aP kVH (aH (CL mx) run 28 [r5.v] r5.h')) fun r6=>sRd [r6.v,r5.v,r4.v,r3.v,r2.v,r1.v,r0.v] r6.h' (cvI 65535 r6.v r6.h' kVH) fun r7=>sRd [r7.v,r6.v,r5.v,r4.v,r3.v,r2.v,r1.v,r0.v] r7.h' (aW D r7.h' kVH) fun r8=>sRd [r8.v,r7.v,r6.v,r5.v,r4.v,r3.v,r2.v,r1.v,r0.v] r8.h' (slS 1 r8.v (some (.int 9223372036854775807 4)) none none r8.h' kVH) fun r9=>sEf [r9.v,r8.v,r7.v,r6.v,r5.v,r4.v,r3.v,r2.v,r1.v,r0.v] r9.h' (aP kVH (aH (CL mx) run 28 [r9.v] r9.h')) fun r10=>sRd [r10.v,r9.v,r8.v,r7.v,r6.v,r5.v,r4.v,r3.v,r2.v,r1.v,r0.v] r10.h' (cvI 4294967295 r10.v r10.h' kVH) fun r11=>sRd [r11.v,r10.v,r9.v,r8.v,r7.v,r6.v,r5.v,r4.v,r3.v,r2.v,r1.v,r0.v] r11.h' (arith mL r11.v (.int 4294967295 65536) r11.h' kVH) fun r12=>sRd [r12.v,r11.v,r10.v,r9.v,r8.v,r7.v,r6.v,r5.v,r4.v,r3.v,r2.v,r1.v,r0.v] r12.h' (aW D r12.h' kVH) fun r13=>sRd [r13.v,r12.v,r11.v,r10.v,r9.v,r8.v,r7.v,r6.v,r5.v,r4.v,r3.v,r2.v,r1.v,r0.v] r13.h' (slS 1 r13.v (some (.int 9223372036854775807 6)) none none r13.h' kVH) fun r14=>sEf [r14.v,r13.v,r12.v,r11.v,r10.v,r9.v,r8.v,r7.v,r6.v,r5.v,r4.v,r3.v,r2.v,r1.v,r0.v] r14.h' (aP kVH (aH (CL mx) run 28 [r14.v] r14.h')) fun r15=>sRd [r15.v,r14.v,r13.v,r12.v,r11.v,r10.v,r9.v,r8.v,r7.v,r6.v,r5.v,r4.v,r3.v,r2.v,r1.v,r0.v] r15.h' (cvI 4294967295 r15.v r15.h' kVH) fun r16=>sRd [r16.v,r15.v,r14.v,r13.v,r12.v,r11.v,r10.v,r9.v,r8.v,r7.v,r6.v,r5.v,r4.v,r3.v,r2.v,r1.v,r0.v] r16.h' (arith cg r12.v r16.v r16.h' kVH) fun r17=>sRd [r17.v,r16.v,r15.v,r14.v,r13.v,r12.v,r11.v,r10.v,r9.v,r8.v,r7.v,r6.v,r5.v,r4.v,r3.v,r2.v,r1.v,r0.v] r17.h' (aW D r17.h' kVH) fun r18=>sRd [r18.v,r17.v,r16.v,r15.v,r14.v,r13.v,r12.v,r11.v,r10.v,r9.v,r8.v,r7.v,r6.v,r5.v,r4.v,r3.v,r2.v,r1.v,r0.v] r18.h' (aW E r18.h' kVH) fun r19=>sRd [r19.v,r18.v,r17.v,r16.v,r15.v,r14.v,r13.v,r12.v,r11.v,r10.v,r9.v,r8.v,r7.v,r6.v,r5.v,r4.v,r3.v,r2.v,r1.v,r0.v] r19.h' (arith cg (.int 9223372036854775807 10) r19.v r19.h' kVH) fun r20=>sRd [r20.v,r19.v,r18.v,r17.v,r16.v,r15.v,r14.v,r13.v,r12.v,r11.v,r10.v,r9.v,r8.v,r7.v,r6.v,r5.v,r4.v,r3.v,r2.v,r1.v,r0.v] r20.h' (slS 1 r18.v (some (.int 9223372036854775807 10)) (some r20.v) none r20.h' kVH) fun r21=>sRd [r21.v,r20.v,r19.v,r18.v,r17.v,r16.v,r15.v,r14.v,r13.v,r12.v,r11.v,r10.v,r9.v,r8.v,r7.v,r6.v,r5.v,r4.v,r3.v,r2.v,r1.v,r0.v] r21.h' (dX (placeOf (CL mx) [(0,47),(2,24),(3,24),(4,50),(5,22)]) [.aa,.int 9223372036854775807 0,.int 65535 0,.int 65535 0,.int 4294967295 0,.aa] [(0,r0.v),(1,r3.v),(2,r7.v),(3,r17.v),(4,r21.v)] r21.h' kVH) fun r22=>sMk [r22.v,r21.v,r20.v,r19.v,r18.v,r17.v,r16.v,r15.v,r14.v,r13.v,r12.v,r11.v,r10.v,r9.v,r8.v,r7.v,r6.v,r5.v,r4.v,r3.v,r2.v,r1.v,r0.v] r22.h' (fun h=>cU h (.cells [.aa,.int 9223372036854775807 0,.int 65535 0,.int 65535 0,.int 4294967295 0,.aa] 53) kVH) fun r23=>sEf [r23.v,r22.v,r21.v,r20.v,r19.v,r18.v,r17.v,r16.v,r15.v,r14.v,r13.v,r12.v,r11.v,r10.v,r9.v,r8.v,r7.v,r6.v,r5.v,r4.v,r3.v,r2.v,r1.v,r0.v] r23.h' (ay 6 r23.v r22.v r23.h' kVH) fun r24=>bq (and (aG r0 (OK.f (.mk (o1 (aF 2) (.tr 10))) (CL mx) run r0.σ tt (aN (ag r0.h) r2.h') kVH)) (and (aG r4 (OK.f (.mk (o1 aW (.tr 13))) (CL mx) run r4.σ tt (aN (ag r4.h) r2.h) kVH)) (and (aG r5 (OK.f (.mk (qU 1 (.st 0) (some (.cst (.int 9223372036854775807 2))) none none)) (CL mx) run r5.σ tt (aN (ag r5.h) r2.h) kVH)) (and (aG r0 (OK.f (.mk (o1 (aF 2) (.tr 10))) (CL mx) run r0.σ tt (aN (ag r0.h) r6.h') kVH)) (and (aG r3 (OK.f (.mk (o1 (cvI 65535) (.st 0))) (CL mx) run r3.σ tt (aN (ag r3.h) r6.h') kVH)) (and (aG r8 (OK.f (.mk (o1 aW (.tr 13))) (CL mx) run r8.σ tt (aN (ag r8.h) r2.h) kVH)) (and (aG r8 (OK.f (.mk (o1 aW (.tr 13))) (CL mx) run r8.σ tt (aN (ag r8.h) r6.h) kVH)) (and (aG r9 (OK.f (.mk (qU 1 (.st 0) (some (.cst (.int 9223372036854775807 4))) none none)) (CL mx) run r9.σ tt (aN (ag r9.h) r2.h) kVH)) (and (aG r9 (OK.f (.mk (qU 1 (.st 0) (some (.cst (.int 9223372036854775807 4))) none none)) (CL mx) run r9.σ tt (aN (ag r9.h) r6.h) kVH)) (and (aG r0 (OK.f (.mk (o1 (aF 2) (.tr 10))) (CL mx) run r0.σ tt (aN (ag r0.h) r10.h') kVH)) (and (aG r3 (OK.f (.mk (o1 (cvI 65535) (.st 0))) (CL mx) run r3.σ tt (aN (ag r3.h) r10.h') kVH)) (and (aG r7 (OK.f (.mk (o1 (cvI 65535) (.st 0))) (CL mx) run r7.σ tt (aN (ag r7.h) r10.h') kVH)) (and (aG r13 (OK.f (.mk (o1 aW (.tr 13))) (CL mx) run r13.σ tt (aN (ag r13.h) r2.h) kVH)) (and (aG r13 (OK.f (.mk (o1 aW (.tr 13))) (CL mx) run r13.σ tt (aN (ag r13.h) r6.h) kVH)) (and (aG r13 (OK.f (.mk (o1 aW (.tr 13))) (CL mx) run r13.σ tt (aN (ag r13.h) r10.h) kVH)) (and (aG r14 (OK.f (.mk (qU 1 (.st 0) (some (.cst (.int 9223372036854775807 6))) none none)) (CL mx) run r14.σ tt (aN (ag r14.h) r2.h) kVH)) (and (aG r14 (OK.f (.mk (qU 1 (.st 0) (some (.cst (.int 9223372036854775807 6))) none none)) (CL mx) run r14.σ tt (aN (ag r14.h) r6.h) kVH)) (and (aG r14 (OK.f (.mk (qU 1 (.st 0) (some (.cst (.int 9223372036854775807 6))) none none)) (CL mx) run r14.σ tt (aN (ag r14.h) r10.h) kVH)) (and (aG r0 (OK.f (.mk (o1 (aF 2) (.tr 10))) (CL mx) run r0.σ tt (aN (ag r0.h) r15.h') kVH)) (and (aG r3 (OK.f (.mk (o1 (cvI 65535) (.st 0))) (CL mx) run r3.σ tt (aN (ag r3.h) r15.h') kVH)) (and (aG r7 (OK.f (.mk (o1 (cvI 65535) (.st 0))) (CL mx) run r7.σ tt (aN (ag r7.h) r15.h') kVH)) (and (aG r11 (OK.f (.mk (o1 (cvI 4294967295) (.st 0))) (CL mx) run r11.σ tt (aN (ag r11.h) r15.h') kVH)) (and (aG r12 (OK.f (.mk (o2 (arith mL) (.st 0) (.cst (.int 4294967295 65536)))) (CL mx) run r12.σ tt (aN (ag r12.h) r15.h') kVH)) (and (aG r18 (OK.f (.mk (o1 aW (.tr 13))) (CL mx) run r18.σ tt (aN (ag r18.h) r2.h) kVH)) (and (aG r18 (OK.f (.mk (o1 aW (.tr 13))) (CL mx) run r18.σ tt (aN (ag r18.h) r6.h) kVH)) (and (aG r18 (OK.f (.mk (o1 aW (.tr 13))) (CL mx) run r18.σ tt (aN (ag r18.h) r10.h) kVH)) (and (aG r18 (OK.f (.mk (o1 aW (.tr 13))) (CL mx) run r18.σ tt (aN (ag r18.h) r15.h) kVH)) (and (aG r19 (OK.f (.mk (o1 aW (.tr 14))) (CL mx) run r19.σ tt (aN (ag r19.h) r2.h) kVH)) (and (aG r19 (OK.f (.mk (o1 aW (.tr 14))) (CL mx) run r19.σ tt (aN (ag r19.h) r6.h) kVH)) (and (aG r19 (OK.f (.mk (o1 aW (.tr 14))) (CL mx) run r19.σ tt (aN (ag r19.h) r10.h) kVH)) (and (aG r19 (OK.f (.mk (o1 aW (.tr 14))) (CL mx) run r19.σ tt (aN (ag r19.h) r15.h) kVH)) (and (aG r20 (OK.f (.mk (o2 (arith cg) (.cst (.int 9223372036854775807 10)) (.st 0))) (CL mx) run r20.σ tt (aN (ag r20.h) r2.h) kVH)) (and (aG r20 (OK.f (.mk (o2 (arith cg) (.cst (.int 9223372036854775807 10)) (.st 0))) (CL mx) run r20.σ tt (aN (ag r20.h) r6.h) kVH)) (and (aG r20 (OK.f (.mk (o2 (arith cg) (.cst (.int 9223372036854775807 10)) (.st 0))) (CL mx) run r20.σ tt (aN (ag r20.h) r10.h) kVH)) (and (aG r20 (OK.f (.mk (o2 (arith cg) (.cst (.int 9223372036854775807 10)) (.st 0))) (CL mx) run r20.σ tt (aN (ag r20.h) r15.h) kVH)) (and (aG r21 (OK.f (.mk (qU 1 (.st 2) (some (.cst (.int 9223372036854775807 10))) (some (.st 0)) none)) (CL mx) run r21.σ tt (aN (ag r21.h) r2.h) kVH)) (and (aG r21 (OK.f (.mk (qU 1 (.st 2) (some (.cst (.int 9223372036854775807 10))) (some (.st 0)) none)) (CL mx) run r21.σ tt (aN (ag r21.h) r6.h) kVH)) (and (aG r21 (OK.f (.mk (qU 1 (.st 2) (some (.cst (.int 9223372036854775807 10))) (some (.st 0)) none)) (CL mx) run r21.σ tt (aN (ag r21.h) r10.h) kVH)) (and (aG r21 (OK.f (.mk (qU 1 (.st 2) (some (.cst (.int 9223372036854775807 10))) (some (.st 0)) none)) (CL mx) run r21.σ tt (aN (ag r21.h) r15.h) kVH)) (true)))))))))))))))))))))))))))))))))))))))) (some (.st (ax v0 v2 v3 Z v5 W v7 Y v9 v10 v11 I D E r23.v T U O J H P v76 V R M t g) r24.h')) none)) (ax v0 v2 v3 Z v5 W v7 Y v9 v10 v11 I D E G T U O J H P v76 V R M t g)):=(eW (C:=CL mx) [1,1,1,1,1,1,0,1,0,0,1,1,0,0,1,1,0,0,1,1,0,0,1,1,1,1,1,0] 9 [0,2,3,4,5,6,7,8,9,10,11,12,13,14,15,18,33,34,35,50,75,76,83,84,85,100,112] (by kernel_rfl) _ _ _).trans (by kernel_rfl)
theorem adi:kc (CL mx) run lp (af4 mx) ⟨ax v0 v2 v3 Z v5 W v7 Y v9 v10 v11 I D E G T U O J H P v76 V R M t g,h⟩ κn κx=kc (CL mx) run lp (afy mx) ⟨ax v0 v2 v3 Z v5 W v7 Y v9 v10 v11 I D E G T U O J H P v76 V R M t g,h⟩ (fun s=>kc (CL mx) run lp (agr mx) s κn κx) κx:=by kernel_rfl
theorem acQ:kc (CL mx) run lp (afy mx) ⟨ax v0 v2 v3 Z v5 W v7 Y v9 v10 v11 I D E G T U O J H P v76 V R M t g,h⟩ κn κx=aW v9 h (fun a0 h1=>bq (AV.lt (ag h) a0) ((fun h=>aj 3 Z h (fun a1 h=>kn 3 1 a1 v9 h (fun a2 h=>ao a2 h (fun a3 h=>aF 6 G h (fun a4 h=>fA 6 1 [.aa,.int 9223372036854775807 0,.int 65535 0,.int 65535 0,.int 4294967295 0,.aa] [(0,a4)] h (fun a5 h=>gg 53 6 64 a3 a5 h (fun a6 h1=>bq (Nat.ble (ag h) (ag h1)) ((fun h=>aj 3 Z h (fun a7 h1=>bq (AV.lt (ag h) a7) ((fun h=>kn 3 1 a7 a0 h (fun a8 h=>bQ a8 a6 h (fun a9 h1=>bq (Nat.ble (ag h) (ag h1)) ((fun h=>κn ⟨ax v0 v2 v3 Z v5 W v7 Y v9 v10 v11 I D E G T U O J H P v76 V R M t g,h⟩) h1) none))) h1) none)) h1) none))))))) h1) none):=(cA (C:=CL mx) (ops:=opsOf (cAt [1,1,1,1,1,1,0,1,0,0,1,1,0,0,1,1,0,0,1,1,0,0,1,1,1,1,1,1,0] (bS (CL mx) 9))) (ps:=[0,2,3,4,5,6,7,8,9,10,11,12,13,14,15,18,33,34,35,50,75,76,83,84,85,100,112]) (by kernel_rfl) (by kernel_rfl) _ _ _).trans (by kernel_rfl)
theorem aeh:kc (CL mx) run lp (agr mx) ⟨ax v0 v2 v3 Z v5 W v7 Y v9 v10 v11 I D E G T U O J H P v76 V R M t g,h⟩ κn κx=arith cg (.int 9223372036854775807 10) E h (fun a0 h=>slS 1 D (some a0) none none h (fun a1 h=>κn ⟨ax v0 v2 v3 Z a1 W v7 Y v9 v10 v11 I D E G T U O J H P v76 V R M t g,h⟩)):=by kernel_rfl
theorem amH:kcE (CL mx) [.cell 2 29,.tmp 3] ⟨ax v0 v2 v3 Z v5 W v7 Y v9 v10 v11 I D E G T U O J H P v76 V R M t g,h⟩=aF 6 v2 h (fun r0 _=>some (.vh (.tup [r0,v3]) h)):=(bW _ _ _).trans (by kernel_rfl)
theorem aq7:dz (CL mx) 9=some ⟨ada mx,[0,2,3,4,5,6,7,8,9,10,11,12,13,14,15,18,33,34,35,50,75,76,83,84,85,100,112],157,[.cell 2 29,.tmp 3]⟩:=by kernel_rfl
end
theorem alr (mx:Int) (run:Run) (lp:Lp) (x0:AV) (h:AH):dk (CL mx) run lp 9 [x0] h=vhO (kc (CL mx) run lp (ada mx) ⟨ax x0 .bot .bot .bot .bot .bot .bot .bot .bot .bot .bot .bot .bot .bot .bot .bot .bot .bot .bot .bot .bot .bot .bot .bot .bot .bot .bot,h⟩ (kcE (CL mx) [.cell 2 29,.tmp 3]) (kcQ (CL mx) [.cell 2 29,.tmp 3])):=(bV (by kernel_rfl) (aq7 mx) (by kernel_rfl)).trans (by kernel_rfl)
theorem kC (mx:Int) (p:List Nat):eQ (CL mx) (kAt p (kOf (CL mx) 9)):=iX p (iT (CL mx) 9)
end
def tA (h:AH) (S:Nat→Prop) (r:List AV) (x:DR):Prop:=∃lv pv dv,r=[lv,pv,.int 65535 (x.ty:Int),.int 65535 (x.cls:Int),.int 4294967295 (x.ttl:Int),dv]∧sL h S lv pv x.name∧cO dv (aI x.dat)
def sm:=Du @lC<|Du @jH<|Du @sj<|Du @eB<|Du @afA<|Du @aaF<|Du @abv<|Du @af3<|Du @afU<|Du @af6<|Du @afV<|Du @abE<|Du @vr<|Du @dS<|Du @cmp_eq<|Du @mA<|Du @iltE<|Du @afz<|Du @anV<|Du @aen<|Du @bqT<|Du @bqF<|Du @Bool.not_true<|Du @Bool.not_false<|Du @B8.{0}<|Du @BA.{0}<|Du @decide_true<|Du @cq<|Du @ah<|Du @adJ<| @fE
section
variable {mx:Int} {h h' h1:AH} {S S':Nat→Prop} {Q:Option Rs→Prop} {κn:Kt} {κx:Ex→Kt}
theorem tA.mono {r:List AV} {x:DR} (m: ∀b,b<h.length→S b→S' b∧ab h' b=ab h b) (q:tA h S r x):tA h' S' r x:=by
 obtain ⟨lv,pv,dv,e,n,d⟩:=q;exact ⟨lv,pv,dv,e,n.mono m,d⟩
theorem eT.xn {z:Nat} {v:AV} {L:List DR} (m: ∀b,b<h.length→S b→S' b∧ab h' b=ab h b) (l:eT tA h S z v L):eT tA h' S' z v L:=by
 obtain ⟨rows,o,e,r⟩:=l;exact ⟨rows,o.mono m,e,fun i a x h1 h2=>(r i a x h1 h2).mono m⟩
theorem px: ∀{l:List AV} {j:Nat} {v:AV},aO l=true→v.plain=true→aO (l.set j v)=true
 |[],_,_,_,_=>rfl
 |a::l,0,v,hp,hv=>by
  have:and a.plain (aO l)=true:=hp
  rw [Ba] at this;show and v.plain (aO l)=true;rw [hv,this.2];rfl
 |a::l,j+1,v,hp,hv=>by
  have:and a.plain (aO l)=true:=hp
  rw [Ba] at this;show and a.plain (aO (l.set j v))=true;rw [this.1,px this.2 hv];rfl
theorem av3 {r:List Nat} (hl:4≤r.length):be4 r=be2 r*65536+be2 (r.drop 2):=by
 match r,hl with
 |a::b::c::d::r,_=>
  show (((0*256+a)*256+b)*256+c)*256+d=((0*256+a)*256+b)*65536+((0*256+c)*256+d);omega
theorem cvN {n:Nat} {m:Nat} (hn:n≤m) (h:AH) (κ:Ka):cvI m (N64 n) h κ=κ (.int m (n:Int)) h:=by
 unfold N64;rw [vW,dO hn]
theorem gC {rv:AV} {c:List Nat} (hb:cO rv (aI c)) (hne:c≠[]) {l:Nat} (hl:l≤c.length) (h:AH) (κ:Ka):slS 1 rv (some (N64 l)) none none h κ=κ (.slp (aI (c.drop l)) (c.length-l)) h:=by
 have:=hb.tail (fun e=>hne (Dm.1 e)) (l:=l) (by rw [ba];exact hl) 9223372036854775807 h κ
 rwa [ba,jY] at this
theorem iR (c:List Nat) (l:Nat):cO (.slp (aI (c.drop l)) (c.length-l)) (aI (c.drop l)):=cO.mk _ (by rw [ba,Bi])
theorem aiL {Hb:AH} {b2 b4 y2 y4 n1 tot:Nat} {bv v3:AV} {cs u:List AV} (h24:b2≠b4) (hb2:b2<n1) (hb4:b4<n1) (hn:n1=Hb.length) (e2:ab Hb b2=some (.cells u y2)) (hu:u.length=6) (hcs:cs.length=6) (hcp:aO cs=true) (htot:tot≤65535) (v9 v10 v11 I D E G T P v76 V R M t g:AV):
 ∀(n i:Nat) (A:List DQ) (c:List Nat) (f:Nat) (hc:AH) (rv v W v7 Y J H:AV) (N:Nat→Prop) (rows:List (List AV)),i+n=tot→n+1300≤f→cO rv (aI c)→By c→c.length≤1000→Fx b4 Hb hc→ab hc b4=some (.cells (cs.set 2 v) y4)→(∀b,N b→n1≤b∧b<hc.length)→OwR hc (fun b=>n1≤b∧ ¬N b) 4 v rows→rows.length=A.length→A.length=i→(∀(i:Nat) r x,rows[i]? =some r→A[i]? =some x→QAt hc N r x)→
  (∀L c',bR eR n c=some (L,c')→ ∀h' rv v W v7 Y J H (N:Nat→Prop) (rows:List (List AV)),cO rv (aI c')→Fx b4 Hb h'→ab h' b4=some (.cells (cs.set 2 v) y4)→(∀b,N b→n1≤b∧b<h'.length)→OwR h' (fun b=>n1≤b∧ ¬N b) 4 v rows→rows.length=(A++L).length→(∀(i:Nat) r x,rows[i]? =some r→(A++L)[i]? =some x→QAt h' N r x)→Q (κx (.exit 0) ⟨ax bv (.pto b2 0) v3 (.pto b4 0) rv W v7 Y v9 v10 v11 I D E G T (N64 tot) (N64 tot) J H P v76 V R M t g,h'⟩))→
  (bR eR n c=none→ ∀h' cs' w5 O W v7 Y J H,cs'.length=6→aO cs'=true→ab h' b2=some (.cells cs' y2)→(n1≤h'.length∧ ∀j,j<n1→j≠b2→j≠b4→ab h' j=ab Hb j)→Q (κx .ret ⟨ax bv (.pto b2 0) (.bool false) (.pto b4 0) w5 W v7 Y v9 v10 v11 I D E G T (N64 tot) O J H P v76 V R M t g,h'⟩))→
  Q (kcR κn κx ((rl (CL mx) f).lp (adq mx) ⟨ax bv (.pto b2 0) v3 (.pto b4 0) rv W v7 Y v9 v10 v11 I D E G T (N64 tot) (N64 i) J H P v76 V R M t g,hc⟩)):=by
 intro n
 induction n with
 |zero=>
  intro i A c f hc rv v W v7 Y J H N rows hi hf hb hd hl fx e4 hN ow hr hA hrow kO kB;obtain ⟨f,rfl⟩:=fuel hf;obtain rfl:i=tot:=by omega
  refine de (kC mx _) ?_;simp only [sy,A7,seval,ot,n64,Df];exact kO [] c rfl hc rv v W v7 Y (.bool false) H N rows hb fx e4 hN ow (by rw [Bx];exact hr) (by rw [Bx];exact hrow)
 |succ n ih=>
  intro i A c f hc rv v W v7 Y J H N rows hi hf hb hd hl fx e4 hN ow hr hA hrow kO kB;obtain ⟨F,rfl⟩: ∃F,f=F+1:=⟨f-1,by omega⟩;have g1:decide ((i:Int)<(tot:Int))=true:=by rw [decide_eq_true_iff];omega
  have w1:aQ 9223372036854775807 ((i:Int)+1)=((i+1:Nat):Int):=wI (by simp) (by omega);have fx1:=fx.1;have lc:=aJ e4;have hlen: ∀(h':AH) (κ:Ka),bG rv h' κ=κ (N64 c.length) h':=fun h' κ=>by have:=hb.len h' κ;rwa [ba] at this
  obtain ⟨r,H',ec,oH',nm⟩:=aL.call (C:=CL mx) (xU (mx:=mx) (h:=hc) hb hd hl F (by omega));have ld4: ∀(X:AH),Old hc X→ ∀κ:Ka,aF 6 (.pto b4 0) X κ=κ (.agg (cs.set 2 v)) X:=fun X o κ=>bg (n:=6) ((o.2 b4 lc).trans e4) (by rw [Bb];exact hcs) κ
  have pcs:aO (cs.set 2 v)=true:=px hcp ow.plain;have e2c: ∀(X:AH),Old hc X→ab X b2=some (.cells u y2):=fun X o=>(o.2 b2 (by omega)).trans ((fx.2 b2 (by omega) h24).trans e2)
  have st2: ∀(X:AH),Old hc X→ ∀κ:Ka,ay 6 (.pto b2 0) (.agg (cs.set 2 v)) X κ=κ (.tup []) (X.set b2 (some (.cells (cs.set 2 v) y2))):=fun X o κ=>bB (n:=6) (e2c X o) hu (by rw [Bb];exact hcs) pcs κ
  have bad: ∀(X:AH),Old hc X→bR eR (n+1) c=none→ ∀w5 O W v7 Y J H,Q (κx .ret ⟨ax bv (.pto b2 0) (.bool false) (.pto b4 0) w5 W v7 Y v9 v10 v11 I D E G T (N64 tot) O J H P v76 V R M t g,X.set b2 (some (.cells (cs.set 2 v) y2))⟩):=fun X o e w5 O W v7 Y J H=>by
   have o1:=o.1;exact kB e _ (cs.set 2 v) _ _ _ _ _ _ _ (by rw [Bb];exact hcs) pcs (aq (by omega) _) ⟨by rw [Bb];omega,fun j hj h2 h4=>by rw [ae (Ne.symm h2),o.2 j (by omega)];exact fx.2 j (by omega) h4⟩
  unfold bR at kO kB;refine de (kC mx _) ?_
  cases en:eJ (c.length+1) c with
  |none=>
   rw [en] at nm;obtain ⟨lv,pv,many,rfl,p1,p2⟩:=nm;have eq0:eR c=none:=by unfold eR;rw [en]
   have z0: ∀κ:Ka,ay 2 (.pto H'.length 0) (.agg [lv,pv]) (H'++[some (.cells [.aa,.int 9223372036854775807 0] (47+1))]) κ=κ (.tup []) (H'++[some (.cells [lv,pv] (47+1))]):=fun κ=>bD rfl rfl (by show and lv.plain (and pv.plain true)=true;rw [p1,p2];rfl)
   simp only [Nat.reduceAdd] at z0;have oX:Old hc (H'++[some (.cells [lv,pv] (47+1))]):=oH'.app _;simp only [Nat.reduceAdd] at oX;refine wEq (ot ..) ?_;simp only [sm,n64,g1];refine wEq (rN ..) ?_;simp only [sm,ec,z0,ld4 _ oX,st2 _ oX];exact bad _ oX (by unfold bR;rw [eq0]) _ _ _ _ _ _ _
  |some xr=>
   obtain ⟨x,rest⟩:=xr;rw [en] at nm;obtain ⟨lv,pv,many,rfl,nam,hm,hrest⟩:=nm;obtain ⟨nk1,nk2,nk3,nk4,nk5⟩:=uO _ _ _ _ hd en;have hne:c≠[]:=by rintro rfl;simp at nk5
   have lrest:rest.length=c.length-many:=by rw [hrest,Bi]
   have pn2:aO [lv,pv]=true:=by
    have p1:=nam.2.plain;show and lv.plain (and pv.plain true)=true;rw [p1,nam.1];rfl
   obtain ⟨H1,hH1⟩: ∃H1,H1=H'++[some (.cells [lv,pv] (47+1))]:=⟨_,rfl⟩;have z0: ∀κ:Ka,ay 2 (.pto H'.length 0) (.agg [lv,pv]) (H'++[some (.cells [.aa,.int 9223372036854775807 0] (47+1))]) κ=κ (.tup []) H1:=fun κ=>by rw [hH1];exact bD rfl rfl pn2
   simp only [Nat.reduceAdd] at z0;have lH1:H1.length=H'.length+1:=by rw [hH1];simp
   have lHH:=oH'.1;have o1:Old hc H1:=by rw [hH1];exact oH'.app _
   have tn:ab H1 H'.length=some (.cells [lv,pv] (47+1)):=by rw [hH1];exact aD _ _
   have lgn: ∀X,Old H1 X→ ∀κ:Ka,aF 2 (.pto H'.length 0) X κ=κ (.agg [lv,pv]) X:=fun X o κ=>bg (n:=2) ((o.2 _ (by omega)).trans tn) rfl κ
   have wm: ∀k:Nat,k≤70000→aQ 9223372036854775807 ((many:Int)+(k:Int))=((many+k:Nat):Int):=fun k hk=>wI (by simp) (by omega)
   have wk:=wm 4 (by decide);have wk':aQ 9223372036854775807 ((many:Int)+4)=((many+4:Nat):Int):=wk
   by_cases hs:c.length<many+4
   ·have d1:decide ((c.length:Int)<((many+4:Nat):Int))=true:=by rw [decide_eq_true_iff];omega
    have eq0:eR c=none:=by unfold eR;rw [en];exact if_pos (by omega)
    refine wEq (ot ..) ?_;simp only [sm,n64,g1];refine wEq (rN ..) ?_;simp only [sm,ec,z0,hlen,n64,wk',d1,ld4 _ o1,st2 _ o1];exact bad _ o1 (by unfold bR;rw [eq0]) _ _ _ _ _ _ _
   have d1:decide ((c.length:Int)<((many+4:Nat):Int))=false:=by rw [decide_eq_false_iff_not];omega
   have X1:Old H1 (aN (ag H1) H1):=Old.rfl.aN (by rw [ah];exact A9 _)
   have e4H:ab H1 b4=_:=(o1.2 b4 lc).trans e4;have cv:(cs.set 2 v)[2]? =some v:=by rw [CO (by omega)]
   have c4:Cl1 H1 (.pto b4 2) v:=rn e4H cv (ow.ltH.mono o1.1);have t0:=gC hb hne (l:=many) (by omega);have t2:=gC hb hne (l:=many+2) (by omega);have t4:=gC hb hne (l:=many+4) (by omega);have tw0:=jo (mx:=mx) (iR c many) (hd.drop many) (by rw [Bi];omega) (F-1) H1;have tw2:=jo (mx:=mx) (iR c (many+2)) (hd.drop (many+2)) (by rw [Bi];omega) (F-1) H1;rw [show F-1+1=F by omega] at tw0 tw2;have tc0:aP kVH (aH (CL mx) (rl (CL mx) F).run 28 [.slp (aI (c.drop many)) (c.length-many)] H1)=some (.vh (N64 (be2 (c.drop many))) H1):=by rw [tw0];rfl
   have tc2:aP kVH (aH (CL mx) (rl (CL mx) F).run 28 [.slp (aI (c.drop (many+2))) (c.length-(many+2))] H1)=some (.vh (N64 (be2 (c.drop (many+2)))) H1):=by rw [tw2];rfl
   obtain ⟨q,hq⟩: ∃q:DQ,q=⟨x,be2 (c.drop many),be2 (c.drop (many+2))⟩:=⟨_,rfl⟩;have eq1:eR c=some (q,c.drop (many+4)):=by
    unfold eR;rw [en];show (if rest.length<4 then none else _)=_;rw [if_neg (by omega),hrest,hq,Bu,Bu]
   have ar: ∀(X:AH) (κ:Ka),arith cg (N64 many) (.int 9223372036854775807 2) X κ=κ (N64 (many+2)) X:=fun X κ=>by
    unfold N64;rw [dS,mA,show ((many:Int)+2)=(many:Int)+((2:Nat):Int) from rfl,wm 2 (by decide)]
   have b0:=(hd.drop many).be2;have b2':=(hd.drop (many+2)).be2;have q0:=cvN (n:=be2 (c.drop many)) (m:=65535) (by omega);have q2:=cvN (n:=be2 (c.drop (many+2))) (m:=65535) (by omega);have pn:aO [lv,pv,.int 65535 (be2 (c.drop many):Int),.int 65535 (be2 (c.drop (many+2)):Int)]=true:=by
    show and lv.plain (and pv.plain (and true (and true true)))=true;rw [nam.2.plain,nam.1];rfl
   have bl: ∀(X:AH) (κ:Ka),dX (placeOf (CL mx) [(0,47),(2,24),(3,24)]) [.aa,.int 9223372036854775807 0,.int 65535 0,.int 65535 0] [(0,.agg [lv,pv]),(1,.int 65535 (be2 (c.drop many):Int)),(2,.int 65535 (be2 (c.drop (many+2)):Int))] X κ=κ (.agg [lv,pv,.int 65535 (be2 (c.drop many):Int),.int 65535 (be2 (c.drop (many+2)):Int)]) X:=fun X κ=>cZ (by kernel_rfl)
   obtain ⟨H2,hH2⟩: ∃H2,H2=H1++[some (.cells [lv,pv,.int 65535 (be2 (c.drop many):Int),.int 65535 (be2 (c.drop (many+2)):Int)] 0)]:=⟨_,rfl⟩;have lH2:H2.length=H1.length+1:=by rw [hH2];simp
   have f2: ∀b,b<hc.length→ab H2 b=ab hc b:=fun b hb=>by rw [hH2,ak (by omega),o1.2 b hb]
   have ow2:OwR H2 (fun b=>n1≤b∧ ¬N b∧b<hc.length) 4 v rows:=ow.mono fun b hb hs=>⟨⟨hs.1,hs.2,hb⟩,f2 b hb⟩
   obtain ⟨v',H3,a1,a2,a3,a4⟩:=ow2.app (49+1) (by_:=40) (by decide) (by decide) (x:=.slo H1.length 0 1 1 4 true) (q:=[lv,pv,.int 65535 (be2 (c.drop many):Int),.int 65535 (be2 (c.drop (many+2)):Int)]) rfl (by rw [hH2];exact zf _ rfl H1) rfl pn (by omega)
   simp only [Nat.reduceAdd] at a1;have e43:ab H3 b4=some (.cells (cs.set 2 v) y4):=by rw [a4 b4 (by omega) (by omega),f2 b4 lc];exact e4
   have pv':=a2.plain;obtain ⟨H4,hH4⟩: ∃H4,H4=H3.set b4 (some (.cells (cs.set 2 v') y4)):=⟨_,rfl⟩;have lH4:H4.length=H3.length:=by rw [hH4,Bb]
   have st: ∀κ:Ka,bQ (.pto b4 2) v' H3 κ=κ (.tup []) H4:=fun κ=>by
    rw [fM,pv',e43,hH4];show au (cs.set 2 v)[2]? (fun _=>κ (.tup []) (H3.set b4 (some (.cells ((cs.set 2 v).set 2 v') y4))))=_;rw [cv,aT,Dp]
   refine wEq (ot ..) ?_;simp only [sm,n64,g1];refine wEq (rN ..) ?_;simp only [sm,ec,z0,hlen,n64,wk',d1];have lrv:LtH H1 rv:=fun k _=>hb.lt k
   have lnm:LtH H1 (.agg [lv,pv]):=fun k hk=>by
    have q1:=nam.2.toR.ltH k (by have:=o1.1;omega)
    show and (lv.lt k) (and (pv.lt k) true)=true;rw [q1,nam.1];rfl
   refine wEq (acD ..) ?_;refine wRd (v:=.pto b4 2) rfl ?_;refine wRd (c4.2.2 _ Old.rfl kVH) ?_;refine wRd (lgn _ Old.rfl kVH) ?_;refine wRd (v:=rv) rfl ?_;refine wRd (v:=N64 many) rfl ?_;refine wRd (t0 _ kVH) ?_;refine wEf tc0 (A9 _) ?_;refine wRd (q0 _ kVH) ?_;refine wRd (v:=rv) rfl ?_;refine wRd (v:=N64 many) rfl ?_;refine wRd (ar _ kVH) ?_;refine wRd (t2 _ kVH) ?_;refine wEf tc2 (A9 _) ?_;refine wRd (q2 _ kVH) ?_;refine wRd (bl _ kVH) ?_;refine wMk (w:=fun n=>.slo n 0 1 1 4 true) (B:=some (.cells [lv,pv,.int 65535 (be2 (c.drop many):Int),.int 65535 (be2 (c.drop (many+2)):Int)] 0)) (fun h=>auA lv pv (.int 65535 (be2 (c.drop many):Int)) (.int 65535 (be2 (c.drop (many+2)):Int)) h kVH) hH2 ?_;refine wEf (a1 kVH) a3 ?_;refine wRd (v:=.pto b4 2) rfl ?_;refine wEf (st kVH) (show H3.length≤H4.length by omega) ?_;refine bC (aw (h0:=H1) (LtH.pto (h:=H1) (by omega)) (A9 _) rfl) ?_;refine bC (aw (h0:=H1) c4.2.1 (A9 _) (c4.2.2 _ X1 kVH)) ?_;refine bC (aw (h0:=H1) lnm (A9 _) (lgn _ X1 kVH)) ?_;refine bC (aw (h0:=H1) lrv (A9 _) rfl) ?_;refine bC (aw (h0:=H1) (LtH.int (h:=H1) _ _) (A9 _) rfl) ?_;refine bC (aw (h0:=H1) (LtH.int (h:=H1) _ _) (A9 _) (ar _ kVH)) ?_;refine bC (aw (h0:=H1) (fun _ _=>rfl) (A9 _) (t2 _ kVH)) ?_;refine bC (aw (h0:=H1) (LtH.pto (h:=H1) (by omega)) (A9 _) rfl) ?_;refine bC (aw (h0:=H1) c4.2.1 (A9 _) (c4.2.2 _ X1 kVH)) ?_;refine bC (aw (h0:=H1) lnm (A9 _) (lgn _ X1 kVH)) ?_;refine bC (aw (h0:=H1) (LtH.int (h:=H1) _ _) (A9 _) (q0 _ kVH)) ?_;refine aji ?_
   refine wEq (adt ..) ?_;have ar4: ∀(X:AH) (κ:Ka),arith cg (N64 many) (.int 9223372036854775807 4) X κ=κ (N64 (many+4)) X:=fun X κ=>by
    unfold N64;rw [dS,mA,wk']
   refine wEq (ar4 _ _) ?_;refine wEq (t4 _ _) ?_;refine wEq (ahR ..) ?_;simp only [dS,mA,n64,w1];rw [eq1] at kO kB
   dsimp only at kO kB
   have f3: ∀b,¬(n1≤b∧ ¬N b∧b<hc.length)→b<H2.length→ab H3 b=ab H2 b:=fun b h1 h2=>a4 b h1 h2
   have f4: ∀b,b≠b4→ab H4 b=ab H3 b:=fun b hb=>by rw [hH4,ae (Ne.symm hb)]
   refine ih (i+1) (A++[q]) (c.drop (many+4)) F H4 (.slp (aI (c.drop (many+4))) (c.length-(many+4))) v' _ _ _ _ _ (fun b=>N b∨(hc.length≤b∧b<H'.length)) (rows++[[lv,pv,.int 65535 (be2 (c.drop many):Int),.int 65535 (be2 (c.drop (many+2)):Int)]]) (by omega) (by omega) (iR c _) (hd.drop _) (by rw [Bi];omega) ?_ ?_ ?_ ?_ (by simp [hr]) (by simp [hA]) ?_ ?_ ?_
   ·refine ⟨by omega,fun i hi hn=>?_⟩
    rw [f4 i hn,f3 i (by omega) (by omega),f2 i (by omega)];exact fx.2 i hi hn
   ·rw [hH4,aq (by omega)]
   ·intro b hb
    rcases hb with hb|hb
    ·have:=hN b hb
     exact ⟨this.1,by omega⟩
    ·exact ⟨by omega,by omega⟩
   ·refine a2.mono fun b hb hs=>⟨⟨?_,?_⟩,f4 b ?_⟩
    ·rcases hs with hs|hs<;>omega
    ·rintro (c|c)
     ·rcases hs with hs|hs
      ·exact hs.2.1 c
      ·have:=(hN b c).2;omega
     ·rcases hs with hs|hs<;>omega
    ·rcases hs with hs|hs<;>omega
   ·intro j r y hi hy
    by_cases hl:j<A.length
    ·rw [Bj (by omega)] at hi
     rw [Bj hl] at hy;refine (hrow j r y hi hy).mono fun b hb hs=>⟨.inl hs,?_⟩
     have:=hN b hs
     rw [f4 b (by omega),f3 b (fun c=>c.2.1 hs) (by omega),f2 b hb]
    ·have hi2:j=A.length:=by
      have:=(Bc.1 hy).1
      simp at this;omega
     subst hi2;rw [←hr,Bl (A9 _)] at hi;rw [Bl (A9 _)] at hy
     simp at hi hy
     rw [←hi,←hy,hq];have mo: ∀b,b<H'.length→hc.length≤b→ab H4 b=ab H' b:=fun b hb hs=>by
      rw [f4 b (by omega),f3 b (by omega) (by omega),hH2,ak (by omega),hH1,ak hb]
     exact ⟨lv,pv,rfl,nam.mono fun b hb hs=>⟨.inr ⟨hs,hb⟩,mo b hb hs⟩⟩
   ·intro L c' hL h' rv' v'' W v7 Y J H N' rows' p1 p2 p3 p4 p5 p6 p7
    refine kO (q::L) c' (by rw [hL]) h' rv' v'' W v7 Y J H N' rows' p1 p2 p3 p4 p5 (by rw [p6];simp) (fun j r y h1 h2=>p7 j r y h1 (by rw [←h2];simp))
   ·intro e h' cs' w5 O W v7 Y J H p0 p1 p2 p3
    exact kB (by rw [e]) h' cs' w5 O W v7 Y J H p0 p1 p2 p3
theorem ajb {Hb:AH} {b2 b4 y2 y4 n1 tot:Nat} {bv v3:AV} {cs u:List AV} {kk:Nat} (hkk:kk<3) (h24:b2≠b4) (hb2:b2<n1) (hb4:b4<n1) (hn:n1=Hb.length) (e2:ab Hb b2=some (.cells u y2)) (hu:u.length=6) (hcs:cs.length=6) (hcp:aO cs=true) (htot:tot≤65535) (W v7 Y T U O J H P v76:AV):
 ∀(n i:Nat) (A:List DR) (c:List Nat) (f:Nat) (hc:AH) (rv v v10 v11 I D E G M t g:AV) (N:Nat→Prop) (rows:List (List AV)),i+n=tot→n+1300≤f→cO rv (aI c)→By c→c.length≤1000→Fx b4 Hb hc→ab hc b4=some (.cells (cs.set (3+kk) v) y4)→(∀b,N b→n1≤b∧b<hc.length)→OwR hc (fun b=>n1≤b∧ ¬N b) 6 v rows→rows.length=A.length→A.length=i→(∀(i:Nat) r x,rows[i]? =some r→A[i]? =some x→tA hc N r x)→
  (∀L c',bR fC n c=some (L,c')→ ∀h' rv v v10 v11 I D E G M t g (N:Nat→Prop) (rows:List (List AV)),cO rv (aI c')→Fx b4 Hb h'→ab h' b4=some (.cells (cs.set (3+kk) v) y4)→(∀b,N b→n1≤b∧b<h'.length)→OwR h' (fun b=>n1≤b∧ ¬N b) 6 v rows→rows.length=(A++L).length→(∀(i:Nat) r x,rows[i]? =some r→(A++L)[i]? =some x→tA h' N r x)→Q (κx (.exit 4) ⟨ax bv (.pto b2 0) v3 (.pto b4 0) rv W v7 Y (N64 kk) v10 v11 I D E G T U O J H P v76 (N64 tot) (N64 tot) M t g,h'⟩))→
  (bR fC n c=none→ ∀h' cs' w5 R v10 v11 I D E G M t g,cs'.length=6→aO cs'=true→ab h' b2=some (.cells cs' y2)→(n1≤h'.length∧ ∀j,j<n1→j≠b2→j≠b4→ab h' j=ab Hb j)→Q (κx .ret ⟨ax bv (.pto b2 0) (.bool false) (.pto b4 0) w5 W v7 Y (N64 kk) v10 v11 I D E G T U O J H P v76 (N64 tot) R M t g,h'⟩))→
  Q (kcR κn κx ((rl (CL mx) f).lp (yT mx) ⟨ax bv (.pto b2 0) v3 (.pto b4 0) rv W v7 Y (N64 kk) v10 v11 I D E G T U O J H P v76 (N64 tot) (N64 i) M t g,hc⟩)):=by
 intro n
 induction n with
 |zero=>
  intro i A c f hc rv v v10 v11 I D E G M t g N rows hi hf hb hd hl fx e4 hN ow hr hA hrow kO kB;obtain ⟨f,rfl⟩:=fuel hf;obtain rfl:i=tot:=by omega
  refine de (kC mx _) ?_;simp only [sy,A7,seval,jv,n64,Df];exact kO [] c rfl hc rv v v10 v11 I D E G (.bool false) t g N rows hb fx e4 hN ow (by rw [Bx];exact hr) (by rw [Bx];exact hrow)
 |succ n ih=>
  intro i A c f hc rv v v10 v11 I D E G M t g N rows hi hf hb hd hl fx e4 hN ow hr hA hrow kO kB;obtain ⟨F,rfl⟩: ∃F,f=F+1:=⟨f-1,by omega⟩;have g1:decide ((i:Int)<(tot:Int))=true:=by rw [decide_eq_true_iff];omega
  have w1:aQ 9223372036854775807 ((i:Int)+1)=((i+1:Nat):Int):=wI (by simp) (by omega);have fx1:=fx.1;have lc:=aJ e4;have hlen: ∀(h':AH) (κ:Ka),bG rv h' κ=κ (N64 c.length) h':=fun h' κ=>by have:=hb.len h' κ;rwa [ba] at this
  obtain ⟨r,H',ec,oH',nm⟩:=aL.call (C:=CL mx) (xU (mx:=mx) (h:=hc) hb hd hl F (by omega));have ld4: ∀(X:AH),Old hc X→ ∀κ:Ka,aF 6 (.pto b4 0) X κ=κ (.agg (cs.set (3+kk) v)) X:=fun X o κ=>bg (n:=6) ((o.2 b4 lc).trans e4) (by rw [Bb];exact hcs) κ
  have pcs:aO (cs.set (3+kk) v)=true:=px hcp ow.plain;have e2c: ∀(X:AH),Old hc X→ab X b2=some (.cells u y2):=fun X o=>(o.2 b2 (by omega)).trans ((fx.2 b2 (by omega) h24).trans e2)
  have st2: ∀(X:AH),Old hc X→ ∀κ:Ka,ay 6 (.pto b2 0) (.agg (cs.set (3+kk) v)) X κ=κ (.tup []) (X.set b2 (some (.cells (cs.set (3+kk) v) y2))):=fun X o κ=>bB (n:=6) (e2c X o) hu (by rw [Bb];exact hcs) pcs κ
  have bad: ∀(X:AH),Old hc X→bR fC (n+1) c=none→ ∀w5 R v10 v11 I D E G M t g,Q (κx .ret ⟨ax bv (.pto b2 0) (.bool false) (.pto b4 0) w5 W v7 Y (N64 kk) v10 v11 I D E G T U O J H P v76 (N64 tot) R M t g,X.set b2 (some (.cells (cs.set (3+kk) v) y2))⟩):=fun X o e w5 R v10 v11 I D E G M t g=>by
   have o1:=o.1;exact kB e _ (cs.set (3+kk) v) _ _ _ _ _ _ _ _ _ _ _ (by rw [Bb];exact hcs) pcs (aq (by omega) _) ⟨by rw [Bb];omega,fun j hj h2 h4=>by rw [ae (Ne.symm h2),o.2 j (by omega)];exact fx.2 j (by omega) h4⟩
  unfold bR at kO kB;refine de (kC mx _) ?_
  cases en:eJ (c.length+1) c with
  |none=>
   rw [en] at nm;obtain ⟨lv,pv,many,rfl,p1,p2⟩:=nm;have eq0:fC c=none:=by unfold fC;rw [en]
   have z0: ∀κ:Ka,ay 2 (.pto H'.length 0) (.agg [lv,pv]) (H'++[some (.cells [.aa,.int 9223372036854775807 0] (47+1))]) κ=κ (.tup []) (H'++[some (.cells [lv,pv] (47+1))]):=fun κ=>bD rfl rfl (by show and lv.plain (and pv.plain true)=true;rw [p1,p2];rfl)
   simp only [Nat.reduceAdd] at z0;have oX:Old hc (H'++[some (.cells [lv,pv] (47+1))]):=oH'.app _;simp only [Nat.reduceAdd] at oX;refine wEq (jv ..) ?_;simp only [sm,n64,g1];refine wEq (lY ..) ?_;simp only [sm,ec,z0,ld4 _ oX,st2 _ oX];exact bad _ oX (by unfold bR;rw [eq0]) _ _ _ _ _ _ _ _ _ _ _
  |some xr=>
   obtain ⟨x,rest⟩:=xr;rw [en] at nm;obtain ⟨lv,pv,many,rfl,nam,hm,hrest⟩:=nm;obtain ⟨nk1,nk2,nk3,nk4,nk5⟩:=uO _ _ _ _ hd en;have hne:c≠[]:=by rintro rfl;simp at nk5
   have lrest:rest.length=c.length-many:=by rw [hrest,Bi]
   have pn2:aO [lv,pv]=true:=by
    have p1:=nam.2.plain;show and lv.plain (and pv.plain true)=true;rw [p1,nam.1];rfl
   obtain ⟨H1,hH1⟩: ∃H1,H1=H'++[some (.cells [lv,pv] (47+1))]:=⟨_,rfl⟩;have z0: ∀κ:Ka,ay 2 (.pto H'.length 0) (.agg [lv,pv]) (H'++[some (.cells [.aa,.int 9223372036854775807 0] (47+1))]) κ=κ (.tup []) H1:=fun κ=>by rw [hH1];exact bD rfl rfl pn2
   simp only [Nat.reduceAdd] at z0;have lH1:H1.length=H'.length+1:=by rw [hH1];simp
   have lHH:=oH'.1;have o1:Old hc H1:=by rw [hH1];exact oH'.app _
   have tn:ab H1 H'.length=some (.cells [lv,pv] (47+1)):=by rw [hH1];exact aD _ _
   have lgn: ∀X,Old H1 X→ ∀κ:Ka,aF 2 (.pto H'.length 0) X κ=κ (.agg [lv,pv]) X:=fun X o κ=>bg (n:=2) ((o.2 _ (by omega)).trans tn) rfl κ
   have wm: ∀k:Nat,k≤70000→aQ 9223372036854775807 ((many:Int)+(k:Int))=((many+k:Nat):Int):=fun k hk=>wI (by simp) (by omega)
   have wk:=wm 10 (by decide);have wk':aQ 9223372036854775807 ((many:Int)+10)=((many+10:Nat):Int):=wk
   by_cases hs:c.length<many+10
   ·have d1:decide ((c.length:Int)<((many+10:Nat):Int))=true:=by rw [decide_eq_true_iff];omega
    have eq0:fC c=none:=by unfold fC;rw [en];exact if_pos (by omega)
    refine wEq (jv ..) ?_;simp only [sm,n64,g1];refine wEq (lY ..) ?_;simp only [sm,ec,z0,hlen,n64,wk',d1,ld4 _ o1,st2 _ o1];exact bad _ o1 (by unfold bR;rw [eq0]) _ _ _ _ _ _ _ _ _ _ _
   have d1:decide ((c.length:Int)<((many+10:Nat):Int))=false:=by rw [decide_eq_false_iff_not];omega
   obtain ⟨c2,hc2⟩: ∃c2,c2=c.drop many:=⟨_,rfl⟩;have hd2:By c2:=by rw [hc2];exact hd.drop many
   have l2:c2.length=c.length-many:=by rw [hc2,Bi]
   have n2:c2≠[]:=fun e=>by rw [e] at l2;simp at l2;omega
   obtain ⟨hv,hhv⟩: ∃hv,hv=AV.slp (aI c2) (c.length-many):=⟨_,rfl⟩;have pv2:cO hv (aI c2):=by rw [hhv,hc2];exact iR c many
   have t0: ∀(h:AH) (κ:Ka),slS 1 rv (some (N64 many)) none none h κ=κ hv h:=fun h κ=>by rw [hhv,hc2];exact gC hb hne (l:=many) (by omega) h κ
   have tl: ∀k:Nat,k≤c2.length→ ∀(h:AH) (κ:Ka),slS 1 hv (some (N64 k)) none none h κ=κ (.slp (aI (c2.drop k)) (c2.length-k)) h:=fun k hk=>gC pv2 n2 hk
   have t8:=tl 8 (by omega);have twk: ∀k:Nat,k+2≤c2.length→ ∀H1,aH (CL mx) (rl (CL mx) F).run 28 [.slp (aI (c2.drop k)) (c2.length-k)] H1=some (N64 (be2 (c2.drop k)),H1):=fun k hk H1=>by
    have:=jo (mx:=mx) (iR c2 k) (hd2.drop k) (by rw [Bi];omega) (F-1) H1
    rwa [show F-1+1=F by omega] at this
   have tw0: ∀H1,aH (CL mx) (rl (CL mx) F).run 28 [hv] H1=some (N64 (be2 c2),H1):=fun H1=>by
    have:=jo (mx:=mx) pv2 hd2 (by omega) (F-1) H1
    rwa [show F-1+1=F by omega] at this
   have tw8:=twk 8 (by omega) H1;have hlen2: ∀(h':AH) (κ:Ka),bG hv h' κ=κ (N64 c2.length) h':=fun h' κ=>by have:=pv2.len h' κ;rwa [ba] at this
   obtain ⟨sz,hsz⟩: ∃sz,sz=be2 (c2.drop 8):=⟨_,rfl⟩;have bsz:sz<65536:=by rw [hsz];exact (hd2.drop 8).be2
   rw [←hsz] at tw8;have w10:aQ 9223372036854775807 (10+(sz:Int))=((10+sz:Nat):Int):=wI (by simp) (by omega);have t0': ∀(h:AH) (κ:Ka),slS 1 rv (some (.int 9223372036854775807 (many:Int))) none none h κ=κ hv h:=t0;have t8': ∀(h:AH) (κ:Ka),slS 1 hv (some (.int 9223372036854775807 8)) none none h κ=κ (.slp (aI (c2.drop 8)) (c2.length-8)) h:=t8
   by_cases hs2:c2.length<10+sz
   ·have d2:decide ((c2.length:Int)<((10+sz:Nat):Int))=true:=by rw [decide_eq_true_iff];omega
    have eq0:fC c=none:=by
     unfold fC;rw [en];show (if rest.length<10 then none else if rest.length<10+be2 (rest.drop 8) then none else _)=none;rw [if_neg (by omega),hrest,←hc2,←hsz,if_pos hs2]
    refine wEq (jv ..) ?_;simp only [sm,n64,g1];refine wEq (lY ..) ?_;simp only [sm,ec,z0,hlen,n64,wk',d1,t0',t8',tw8,hlen2,w10,d2,ld4 _ o1,st2 _ o1];exact bad _ o1 (by unfold bR;rw [eq0]) _ _ _ _ _ _ _ _ _ _ _
   have d2:decide ((c2.length:Int)<((10+sz:Nat):Int))=false:=by rw [decide_eq_false_iff_not];omega
   obtain ⟨q,hq⟩: ∃q:DR,q=⟨x,be2 c2,be2 (c2.drop 2),be4 (c2.drop 4),(c2.drop 10).take sz⟩:=⟨_,rfl⟩;have eq1:fC c=some (q,c2.drop (10+sz)):=by
    unfold fC;rw [en];show (if rest.length<10 then none else if rest.length<10+be2 (rest.drop 8) then none else _)=_;rw [if_neg (by omega),hrest,←hc2,←hsz,if_neg hs2,hq]
   have X1:Old H1 (aN (ag H1) H1):=Old.rfl.aN (by rw [ah];exact A9 _)
   have tc0:aP kVH (aH (CL mx) (rl (CL mx) F).run 28 [hv] H1)=some (.vh (N64 (be2 c2)) H1):=by rw [tw0];rfl
   have tc: ∀k:Nat,k+2≤c2.length→aP kVH (aH (CL mx) (rl (CL mx) F).run 28 [.slp (aI (c2.drop k)) (c2.length-k)] H1)=some (.vh (N64 (be2 (c2.drop k))) H1):=fun k hk=>by rw [twk k hk];rfl
   have b0:=hd2.be2;have b2':=(hd2.drop 2).be2;have b4':=(hd2.drop 4).be2;have b6':=(hd2.drop 6).be2;have q0:=cvN (n:=be2 c2) (m:=65535) (by omega);have q2:=cvN (n:=be2 (c2.drop 2)) (m:=65535) (by omega);have q4:=cvN (n:=be2 (c2.drop 4)) (m:=4294967295) (by omega);have q6:=cvN (n:=be2 (c2.drop 6)) (m:=4294967295) (by omega);have e44:be4 (c2.drop 4)=be2 (c2.drop 4)*65536+be2 (c2.drop 6):=by rw [av3 (by rw [Bi];omega),Bu]
   have im: ∀(X:AH) (κ:Ka),arith mL (.int 4294967295 (be2 (c2.drop 4):Int)) (.int 4294967295 65536) X κ=κ (.int 4294967295 ((be2 (c2.drop 4)*65536:Nat):Int)) X:=fun X κ=>by
    rw [dS,afz,show (be2 (c2.drop 4):Int)*65536=((be2 (c2.drop 4)*65536:Nat):Int) by simp,dO (by omega)]
   have ia4: ∀(X:AH) (κ:Ka),arith cg (.int 4294967295 ((be2 (c2.drop 4)*65536:Nat):Int)) (.int 4294967295 (be2 (c2.drop 6):Int)) X κ=κ (.int 4294967295 (be4 (c2.drop 4):Int)) X:=fun X κ=>by
    rw [dS,mA,show ((be2 (c2.drop 4)*65536:Nat):Int)+(be2 (c2.drop 6):Int)=((be2 (c2.drop 4)*65536+be2 (c2.drop 6):Nat):Int) by simp,dO (by omega),e44]
   have i10: ∀(X:AH) (κ:Ka),arith cg (.int 9223372036854775807 10) (N64 sz) X κ=κ (N64 (10+sz)) X:=fun X κ=>by
    unfold N64;rw [dS,mA,w10]
   have cut: ∀(h:AH) (κ:Ka),slS 1 hv (some (.int 9223372036854775807 10)) (some (N64 (10+sz))) none h κ=κ (.slp (aI ((c2.drop 10).take sz)) sz) h:=fun h κ=>by
    have:=pv2.cut (fun e=>n2 (Dm.1 e)) (l:=10) (u:=10+sz) (by omega) (by rw [ba];omega) 9223372036854775807 9223372036854775807 h κ
    rw [jY,nB,show 10+sz-10=sz by omega] at this;exact this
   have pdat:cO (.slp (aI ((c2.drop 10).take sz)) sz) (aI ((c2.drop 10).take sz)):=cO.mk _ (by rw [ba,Bq,Bi];omega)
   have bl: ∀(X:AH) (κ:Ka),dX (placeOf (CL mx) [(0,47),(2,24),(3,24),(4,50),(5,22)]) [.aa,.int 9223372036854775807 0,.int 65535 0,.int 65535 0,.int 4294967295 0,.aa] [(0,.agg [lv,pv]),(1,.int 65535 (be2 c2:Int)),(2,.int 65535 (be2 (c2.drop 2):Int)),(3,.int 4294967295 (be4 (c2.drop 4):Int)),(4,.slp (aI ((c2.drop 10).take sz)) sz)] X κ=κ (.agg [lv,pv,.int 65535 (be2 c2:Int),.int 65535 (be2 (c2.drop 2):Int),.int 4294967295 (be4 (c2.drop 4):Int),.slp (aI ((c2.drop 10).take sz)) sz]) X:=fun X κ=>cZ (by kernel_rfl)
   have pn:aO [lv,pv,.int 65535 (be2 c2:Int),.int 65535 (be2 (c2.drop 2):Int),.int 4294967295 (be4 (c2.drop 4):Int),.slp (aI ((c2.drop 10).take sz)) sz]=true:=by
    show and lv.plain (and pv.plain (and true (and true (and true (and true true)))))=true;rw [nam.2.plain,nam.1];rfl
   obtain ⟨Hz,hHz⟩: ∃Hz,Hz=H1++[some (.cells [.aa,.int 9223372036854775807 0,.int 65535 0,.int 65535 0,.int 4294967295 0,.aa] (52+1))]:=⟨_,rfl⟩;obtain ⟨Hr,hHr⟩: ∃Hr,Hr=H1++[some (.cells [lv,pv,.int 65535 (be2 c2:Int),.int 65535 (be2 (c2.drop 2):Int),.int 4294967295 (be4 (c2.drop 4):Int),.slp (aI ((c2.drop 10).take sz)) sz] (52+1))]:=⟨_,rfl⟩;have lHz:Hz.length=H1.length+1:=by rw [hHz];simp
   have lHr:Hr.length=H1.length+1:=by rw [hHr];simp
   have zr: ∀κ:Ka,ay 6 (.pto H1.length 0) (.agg [lv,pv,.int 65535 (be2 c2:Int),.int 65535 (be2 (c2.drop 2):Int),.int 4294967295 (be4 (c2.drop 4):Int),.slp (aI ((c2.drop 10).take sz)) sz]) Hz κ=κ (.tup []) Hr:=fun κ=>by rw [hHz,hHr];exact bD rfl rfl pn
   have o2:Old hc Hr:=by rw [hHr];exact o1.app _
   have e4H:ab Hr b4=_:=(o2.2 b4 lc).trans e4;have cv:(cs.set (3+kk) v)[3+kk*1]? =some v:=by rw [BW,CO (by omega)]
   have c4:=(rn e4H cv (ow.ltH.mono o2.1)).2.2 Hr Old.rfl;have tr:ab Hr H1.length=some (.cells [lv,pv,.int 65535 (be2 c2:Int),.int 65535 (be2 (c2.drop 2):Int),.int 4294967295 (be4 (c2.drop 4):Int),.slp (aI ((c2.drop 10).take sz)) sz] (52+1)):=by rw [hHr];exact aD _ _
   have lgr: ∀κ:Ka,aF 6 (.pto H1.length 0) Hr κ=κ (.agg [lv,pv,.int 65535 (be2 c2:Int),.int 65535 (be2 (c2.drop 2):Int),.int 4294967295 (be4 (c2.drop 4):Int),.slp (aI ((c2.drop 10).take sz)) sz]) Hr:=fun κ=>bg (n:=6) tr rfl κ
   obtain ⟨H2,hH2⟩: ∃H2,H2=Hr++[some (.cells [lv,pv,.int 65535 (be2 c2:Int),.int 65535 (be2 (c2.drop 2):Int),.int 4294967295 (be4 (c2.drop 4):Int),.slp (aI ((c2.drop 10).take sz)) sz] 0)]:=⟨_,rfl⟩;have lH2:H2.length=Hr.length+1:=by rw [hH2];simp
   have f2: ∀b,b<hc.length→ab H2 b=ab hc b:=fun b hb=>by rw [hH2,ak (by omega),o2.2 b hb]
   have ow2:OwR H2 (fun b=>n1≤b∧ ¬N b∧b<hc.length) 6 v rows:=ow.mono fun b hb hs=>⟨⟨hs.1,hs.2,hb⟩,f2 b hb⟩
   obtain ⟨v',H3,a1,a2,a3,a4⟩:=ow2.app (52+1) (by_:=64) (by decide) (by decide) (x:=.slo Hr.length 0 1 1 6 true) (q:=[lv,pv,.int 65535 (be2 c2:Int),.int 65535 (be2 (c2.drop 2):Int),.int 4294967295 (be4 (c2.drop 4):Int),.slp (aI ((c2.drop 10).take sz)) sz]) rfl (by rw [hH2];exact zf _ rfl Hr) rfl pn (by omega)
   simp only [Nat.reduceAdd] at a1;have bls: ∀κ:Ka,fA 6 1 [.aa,.int 9223372036854775807 0,.int 65535 0,.int 65535 0,.int 4294967295 0,.aa] [(0,.agg [lv,pv,.int 65535 (be2 c2:Int),.int 65535 (be2 (c2.drop 2):Int),.int 4294967295 (be4 (c2.drop 4):Int),.slp (aI ((c2.drop 10).take sz)) sz])] Hr κ=κ (.slo Hr.length 0 1 1 6 true) H2:=fun κ=>by rw [hH2];exact auc ..
   have e43:ab H3 b4=some (.cells (cs.set (3+kk) v) y4):=by rw [a4 b4 (by omega) (by omega),f2 b4 lc];exact e4
   have pv':=a2.plain;obtain ⟨H4,hH4⟩: ∃H4,H4=H3.set b4 (some (.cells (cs.set (3+kk) v') y4)):=⟨_,rfl⟩;have lH4:H4.length=H3.length:=by rw [hH4,Bb]
   have st: ∀κ:Ka,bQ (.pto b4 (3+kk*1)) v' H3 κ=κ (.tup []) H4:=fun κ=>by
    rw [fM,pv',e43,hH4];show au (cs.set (3+kk) v)[3+kk*1]? (fun _=>κ (.tup []) (H3.set b4 (some (.cells ((cs.set (3+kk) v).set (3+kk*1) v') y4))))=_;rw [cv,aT,BW,Dp]
   have ix: ∀(X:AH) (κ:Ka),kn 3 1 (.pto b4 3) (N64 kk) X κ=κ (.pto b4 (3+kk*1)) X:=fun X κ=>by
    unfold N64;rw [rR,decide_eq_true hkk];rfl
   have mp: ∀(X:AH) (κ:Ka),aj 3 (.pto b4 0) X κ=κ (.pto b4 3) X:=fun _ _=>rfl
   have dl3:decide (H2.length≤H3.length)=true:=decide_eq_true a3;have dl4:decide (H3.length≤H4.length)=true:=decide_eq_true (by omega);have db4:decide (b4<H3.length)=true:=decide_eq_true (by omega);have lnm:LtH H1 (.agg [lv,pv]):=fun k hk=>by
    have q1:=nam.2.toR.ltH k (by have:=o1.1;omega)
    show and (lv.lt k) (and (pv.lt k) true)=true;rw [q1,nam.1];rfl
   have lhv:LtH H1 hv:=fun k _=>pv2.lt k
   refine wEq (jv ..) ?_;simp only [sm,n64,g1];refine wEq (lY ..) ?_;simp only [sm,ec,z0,hlen,n64,wk',d1,t0',t8',tw8,hlen2,w10,d2];refine wEq (acf ..) ?_;refine wRd (lgn _ Old.rfl kVH) ?_;refine wRd (v:=hv) rfl ?_;refine wEf tc0 (A9 _) ?_;refine wRd (q0 _ kVH) ?_;refine wRd (v:=hv) rfl ?_;refine wRd (tl 2 (by omega) _ kVH) ?_;refine wEf (tc 2 (by omega)) (A9 _) ?_;refine wRd (q2 _ kVH) ?_;refine wRd (v:=hv) rfl ?_;refine wRd (tl 4 (by omega) _ kVH) ?_;refine wEf (tc 4 (by omega)) (A9 _) ?_;refine wRd (q4 _ kVH) ?_;refine wRd (im _ kVH) ?_;refine wRd (v:=hv) rfl ?_;refine wRd (tl 6 (by omega) _ kVH) ?_;refine wEf (tc 6 (by omega)) (A9 _) ?_;refine wRd (q6 _ kVH) ?_;refine wRd (ia4 _ kVH) ?_;refine wRd (v:=hv) rfl ?_;refine wRd (v:=N64 sz) rfl ?_;refine wRd (i10 _ kVH) ?_;refine wRd (cut _ kVH) ?_;refine wRd (bl _ kVH) ?_;refine wMk (w:=fun n=>.pto n 0) (B:=some (.cells [.aa,.int 9223372036854775807 0,.int 65535 0,.int 65535 0,.int 4294967295 0,.aa] (52+1))) (fun h=>by rw [eB];rfl) hHz ?_;refine wEf (zr kVH) (show Hz.length≤Hr.length by omega) ?_;refine bC (aw (h0:=H1) lnm (A9 _) (lgn _ X1 kVH)) ?_;refine bC (aw (h0:=H1) lhv (A9 _) rfl) ?_;refine bC (aw (h0:=H1) (fun _ _=>rfl) (A9 _) (tl 2 (by omega) _ kVH)) ?_;refine bC (aw (h0:=H1) lnm (A9 _) (lgn _ X1 kVH)) ?_;refine bC (aw (h0:=H1) (LtH.int (h:=H1) _ _) (A9 _) (q0 _ kVH)) ?_;refine bC (aw (h0:=H1) lhv (A9 _) rfl) ?_;refine bC (aw (h0:=H1) lhv (A9 _) rfl) ?_
   refine bC (aw (h0:=H1) (fun _ _=>rfl) (A9 _) (tl 4 (by omega) _ kVH)) ?_;refine bC (aw (h0:=H1) (fun _ _=>rfl) (A9 _) (tl 4 (by omega) _ kVH)) ?_;refine bC (aw (h0:=H1) lnm (A9 _) (lgn _ X1 kVH)) ?_;refine bC (aw (h0:=H1) (LtH.int (h:=H1) _ _) (A9 _) (q0 _ kVH)) ?_;refine bC (aw (h0:=H1) (LtH.int (h:=H1) _ _) (A9 _) (q2 _ kVH)) ?_;refine bC (aw (h0:=H1) lhv (A9 _) rfl) ?_;refine bC (aw (h0:=H1) lhv (A9 _) rfl) ?_;refine bC (aw (h0:=H1) lhv (A9 _) rfl) ?_;refine bC (aw (h0:=H1) (fun _ _=>rfl) (A9 _) (tl 6 (by omega) _ kVH)) ?_;refine bC (aw (h0:=H1) (fun _ _=>rfl) (A9 _) (tl 6 (by omega) _ kVH)) ?_;refine bC (aw (h0:=H1) (fun _ _=>rfl) (A9 _) (tl 6 (by omega) _ kVH)) ?_;refine bC (aw (h0:=H1) lnm (A9 _) (lgn _ X1 kVH)) ?_;refine bC (aw (h0:=H1) (LtH.int (h:=H1) _ _) (A9 _) (q0 _ kVH)) ?_;refine bC (aw (h0:=H1) (LtH.int (h:=H1) _ _) (A9 _) (q2 _ kVH)) ?_;refine bC (aw (h0:=H1) (LtH.int (h:=H1) _ _) (A9 _) (q4 _ kVH)) ?_;refine bC (aw (h0:=H1) (LtH.int (h:=H1) _ _) (A9 _) (im _ kVH)) ?_;refine bC (aw (h0:=H1) lhv (A9 _) rfl) ?_;refine bC (aw (h0:=H1) lhv (A9 _) rfl) ?_;refine bC (aw (h0:=H1) lhv (A9 _) rfl) ?_;refine bC (aw (h0:=H1) lhv (A9 _) rfl) ?_;refine bC (aw (h0:=H1) (LtH.int (h:=H1) _ _) (A9 _) rfl) ?_;refine bC (aw (h0:=H1) (LtH.int (h:=H1) _ _) (A9 _) rfl) ?_;refine bC (aw (h0:=H1) (LtH.int (h:=H1) _ _) (A9 _) rfl) ?_;refine bC (aw (h0:=H1) (LtH.int (h:=H1) _ _) (A9 _) rfl) ?_;refine bC (aw (h0:=H1) (LtH.int (h:=H1) _ _) (A9 _) (i10 _ kVH)) ?_
   refine bC (aw (h0:=H1) (LtH.int (h:=H1) _ _) (A9 _) (i10 _ kVH)) ?_;refine bC (aw (h0:=H1) (LtH.int (h:=H1) _ _) (A9 _) (i10 _ kVH)) ?_;refine bC (aw (h0:=H1) (LtH.int (h:=H1) _ _) (A9 _) (i10 _ kVH)) ?_;refine bC (aw (h0:=H1) (fun _ _=>rfl) (A9 _) (cut _ kVH)) ?_;refine bC (aw (h0:=H1) (fun _ _=>rfl) (A9 _) (cut _ kVH)) ?_;refine bC (aw (h0:=H1) (fun _ _=>rfl) (A9 _) (cut _ kVH)) ?_;refine bC (aw (h0:=H1) (fun _ _=>rfl) (A9 _) (cut _ kVH)) ?_;refine aji ?_;refine wEq (adi ..) ?_;refine wEq (acQ ..) ?_;have c4': ∀κ:Ka,ao (.pto b4 (3+kk*1)) Hr κ=κ v Hr:=c4;have ix': ∀(X:AH) (κ:Ka),kn 3 1 (.pto b4 3) (.int 9223372036854775807 (kk:Int)) X κ=κ (.pto b4 (3+kk*1)) X:=ix;simp only [vr,adJ,bqT,mp,ix',c4',lgr,bls,a1,cq,ah,dl3,fE,db4,st,dl4];refine wEq (aeh ..) ?_;refine wEq (i10 _ _) ?_;refine wEq (tl (10+sz) (by omega) _ _) ?_;refine wEq (aek ..) ?_;simp only [dS,mA,n64,w1];rw [eq1] at kO kB
   dsimp only at kO kB
   have f3: ∀b,¬(n1≤b∧ ¬N b∧b<hc.length)→b<H2.length→ab H3 b=ab H2 b:=fun b h1 h2=>a4 b h1 h2
   have f4: ∀b,b≠b4→ab H4 b=ab H3 b:=fun b hb=>by rw [hH4,ae (Ne.symm hb)]
   refine ih (i+1) (A++[q]) (c2.drop (10+sz)) F H4 (.slp (aI (c2.drop (10+sz))) (c2.length-(10+sz))) v' _ _ _ _ _ _ _ _ _ (fun b=>N b∨(hc.length≤b∧b<H'.length)) (rows++[[lv,pv,.int 65535 (be2 c2:Int),.int 65535 (be2 (c2.drop 2):Int),.int 4294967295 (be4 (c2.drop 4):Int),.slp (aI ((c2.drop 10).take sz)) sz]]) (by omega) (by omega) (iR c2 _) (hd2.drop _) (by rw [Bi];omega) ?_ ?_ ?_ ?_ (by simp [hr]) (by simp [hA]) ?_ ?_ ?_
   ·refine ⟨by omega,fun i hi hn=>?_⟩
    rw [f4 i hn,f3 i (by omega) (by omega),f2 i (by omega)];exact fx.2 i hi hn
   ·rw [hH4,aq (by omega)]
   ·intro b hb
    rcases hb with hb|hb
    ·have:=hN b hb
     exact ⟨this.1,by omega⟩
    ·exact ⟨by omega,by omega⟩
   ·refine a2.mono fun b hb hs=>⟨⟨?_,?_⟩,f4 b ?_⟩
    ·rcases hs with hs|hs<;>omega
    ·rintro (c|c)
     ·rcases hs with hs|hs
      ·exact hs.2.1 c
      ·have:=(hN b c).2;omega
     ·rcases hs with hs|hs<;>omega
    ·rcases hs with hs|hs<;>omega
   ·intro j r y hi hy
    by_cases hl:j<A.length
    ·rw [Bj (by omega)] at hi
     rw [Bj hl] at hy;refine (hrow j r y hi hy).mono fun b hb hs=>⟨.inl hs,?_⟩
     have:=hN b hs
     rw [f4 b (by omega),f3 b (fun c=>c.2.1 hs) (by omega),f2 b hb]
    ·have hi2:j=A.length:=by
      have:=(Bc.1 hy).1
      simp at this;omega
     subst hi2;rw [←hr,Bl (A9 _)] at hi;rw [Bl (A9 _)] at hy
     simp at hi hy
     rw [←hi,←hy,hq];have mo: ∀b,b<H'.length→hc.length≤b→ab H4 b=ab H' b:=fun b hb hs=>by
      rw [f4 b (by omega),f3 b (by omega) (by omega),hH2,ak (by omega),hHr,ak (by omega),hH1,ak hb]
     exact ⟨lv,pv,_,rfl,nam.mono fun b hb hs=>⟨.inr ⟨hs,hb⟩,mo b hb hs⟩,pdat⟩
   ·intro L c' hL h' rv' v'' v10 v11 I D E G M t g N' rows' p1 p2 p3 p4 p5 p6 p7
    refine kO (q::L) c' (by rw [hL]) h' rv' v'' v10 v11 I D E G M t g N' rows' p1 p2 p3 p4 p5 (by rw [p6];simp) (fun j r y h1 h2=>p7 j r y h1 (by rw [←h2];simp))
   ·intro e h' cs' w5 R v10 v11 I D E G M t g p0 p1 p2 p3
    exact kB (by rw [e]) h' cs' w5 R v10 v11 I D E G M t g p0 p1 p2 p3
end
def ac8 (h:AH) (S:Nat→Prop) (cs:List AV) (m:rZ):Prop:=∃q v0 v1 v2,cs=[.int 65535 (m.id:Int),.int 65535 (m.flags:Int),q,v0,v1,v2]∧eT QAt h S 4 q m.qs∧eT tA h S 6 v0 m.r0∧eT tA h S 6 v1 m.r1∧eT tA h S 6 v2 m.r2
def ast (h:AH) (b:List Nat) (r:AV) (h':AH):Prop:=Old h h'∧match iS b with
 |none=>∃cs,r= .tup [.agg cs,.bool false]∧cs.length=6∧aO cs=true
 |some m=>∃cs,r= .tup [.agg cs,.bool true]∧ac8 h' (fun _=>True) cs m
section
variable {mx:Int} {h h' h1:AH} {S S':Nat→Prop} {Q:Option Rs→Prop} {κn:Kt} {κx:Ex→Kt}
theorem pI {hc:AH} {b2 b4 y2 y4 m0 kk:Nat} {bv rv F:AV} {cs u:List AV} {b c:List Nat} (hkk:kk<3) (hb:cO bv (aI b)) (hd:By b) (hl12:12≤b.length) (hbl:b.length≤1000) (hr:cO rv (aI c)) (hdc:By c) (hcl:c.length≤1000) (h24:b2≠b4) (hb2:b2<m0) (hb4:b4<m0) (hm:m0≤hc.length) (e2:ab hc b2=some (.cells u y2)) (hu:u.length=6) (hcs:cs.length=6) (hcp:aO cs=true) (e4:ab hc b4=some (.cells cs y4)) (ev:cs[3+kk]? =some .aa)
 (C v7 D v9 v10 v11 g k l o w y z A B v76 t s p a d:AV) (f:Nat) (hf:67000≤f)
 (kO: ∀L c',bR fC (be2 (b.drop (6+2*kk))) c=some (L,c')→ ∀h' rv v v9 v10 v11 g k l o v76 t s p a d,cO rv (aI c')→Fx b4 hc h'→ab h' b4=some (.cells (cs.set (3+kk) v) y4)→v.plain=true→eT tA h' (fun b=>m0≤b) 6 v L→
  Q (kcR κn κx ((rl (CL mx) f).lp (tW mx) ⟨ax bv (.pto b2 0) F (.pto b4 0) rv C v7 D v9 v10 v11 g k l o w y z A B (N64 (kk+1)) v76 t s p a d,h'⟩)))
 (kB:bR fC (be2 (b.drop (6+2*kk))) c=none→ ∀h' cs' w5 C v7 D v9 v10 v11 g k l o w y z A B E v76 t s p a d,cs'.length=6→aO cs'=true→ab h' b2=some (.cells cs' y2)→(hc.length≤h'.length∧ ∀j,j<hc.length→j≠b2→j≠b4→ab h' j=ab hc j)→Q (κx .ret ⟨ax bv (.pto b2 0) (.bool false) (.pto b4 0) w5 C v7 D v9 v10 v11 g k l o w y z A B E v76 t s p a d,h'⟩)):
 Q (kcR κn κx ((rl (CL mx) (f+1)).lp (tW mx) ⟨ax bv (.pto b2 0) F (.pto b4 0) rv C v7 D v9 v10 v11 g k l o w y z A B (N64 kk) v76 t s p a d,hc⟩)):=by
 have g1:decide ((kk:Int)<3)=true:=by rw [decide_eq_true_iff];omega
 have w2:aQ 9223372036854775807 (2*(kk:Int))=((2*kk:Nat):Int):=wI (by simp) (by omega);have w6:aQ 9223372036854775807 (6+((2*kk:Nat):Int))=((6+2*kk:Nat):Int):=wI (by simp) (by omega);have w1:aQ 9223372036854775807 ((kk:Int)+1)=((kk+1:Nat):Int):=wI (by simp) (by omega);have hne:b≠[]:=by rintro rfl;simp at hl12
 have t6: ∀(h:AH) (κ:Ka),slS 1 bv (some (.int 9223372036854775807 ((6+2*kk:Nat):Int))) none none h κ=κ (.slp (aI (b.drop (6+2*kk))) (b.length-(6+2*kk))) h:=gC hb hne (by omega);have tw:=jo (mx:=mx) (iR b (6+2*kk)) (hd.drop _) (by rw [Bi];omega) (f-1) hc;rw [show f-1+1=f by omega] at tw;have bn:=(hd.drop (6+2*kk)).be2;obtain ⟨n,hn⟩: ∃n,n=be2 (b.drop (6+2*kk)):=⟨_,rfl⟩;rw [←hn] at tw kO kB bn;have hcs2:cs.set (3+kk) .aa=cs:=by
  have hlt:3+kk<cs.length:=by omega
  have:=Bd hlt
  rw [this] at ev;have e2:cs[3+kk]=AV.aa:=by simpa using ev
  rw [←e2,List.set_getElem_self]
 refine de (kC mx _) ?_;refine wEq (vE ..) ?_;simp only [sm,n64,g1];refine wEq (acd ..) ?_;simp only [sm,n64,w2,w6,t6,tw];refine ajb (mx:=mx) (Hb:=hc) (b2:=b2) (b4:=b4) (n1:=hc.length) (tot:=n) (cs:=cs) (u:=u) (kk:=kk) hkk h24 (by omega) (by omega) rfl e2 hu hcs hcp (by omega) _ _ _ _ _ _ _ _ _ _ n 0 [] c f hc rv .aa _ _ _ _ _ _ _ _ _ (fun _=>False) [] (by omega) (by omega) hr hdc hcl Fx.rfl (by rw [hcs2];exact e4) (fun b hb=>hb.elim) OwR.nil rfl rfl (fun i r x hi=>by simp at hi) (fun L c' hL h' rv' v v10 v11 g k l o p a d N rows p1 p2 p3 p4 p5 p6 p7=>?_) (fun e h' cs' w5 s v10 v11 g k l o p a d q1 q0 q2 q3=>?_)
 ·simp only [mW,decide_true,bqT]
  refine wEq (acw ..) ?_;simp only [dS,mA,n64,w1];refine kO L c' hL h' rv' v _ v10 v11 g k l o _ _ _ p a d p1 p2 p3 p5.plain ⟨rows,p5.mono fun b hb hs=>⟨?_,rfl⟩,by rw [p6];rfl,fun i r x hi hx=>(p7 i r x hi hx).mono fun b hb hs=>⟨?_,rfl⟩⟩
  ·have:=hs.1;omega
  ·have:=(p4 b hs).1;omega
 ·simp only [vY]
  exact kB e h' cs' w5 _ _ _ _ _ _ _ _ _ _ _ _ _ _ _ _ _ _ _ _ _ _ q1 q0 q2 q3
end
section
variable {mx:Int} {h h' h1:AH} {S S':Nat→Prop} {Q:Option Rs→Prop} {κn:Kt} {κx:Ex→Kt}
theorem agM {b:List Nat} {bv:AV} (hb:cO bv (aI b)) (hd:By b) (hbl:b.length≤1000) (f:Nat) (hf:70000≤f):aL (ast h b) ((rl (CL mx) f).run 9 [bv] h):=by
 obtain ⟨F,rfl⟩: ∃F,f=F+1+1+1+1+1:=⟨f-5,by omega⟩;refine aL.runs (n:=F+1+1+1+1) (alr mx _ _ _ _) ?_;obtain ⟨y,hy⟩: ∃y:Nat,y=29+1:=⟨_,rfl⟩;obtain ⟨U,hU⟩: ∃U:Blk,U=Blk.cells Z6 y:=⟨_,rfl⟩;have sU:=hU;rw [hy] at sU;simp only [Nat.reduceAdd,Z6] at sU;obtain ⟨H1,hH1⟩: ∃H1,H1=h++[some U]:=⟨_,rfl⟩;obtain ⟨H2,hH2⟩: ∃H2,H2=H1++[some U]:=⟨_,rfl⟩;have l1:H1.length=h.length+1:=by rw [hH1];simp
 have l2:H2.length=h.length+2:=by rw [hH2,A7,l1];rfl
 have o2:Old h H2:=by rw [hH2,hH1];exact (Old.rfl.app _).app _
 have b2:ab H2 h.length=some (.cells Z6 y):=by rw [hH2,ak (by omega),hH1,aD,hU]
 have b4:ab H2 H1.length=some (.cells Z6 y):=by rw [hH2,aD,hU]
 have hlen: ∀(h':AH) (κ:Ka),bG bv h' κ=κ (N64 b.length) h':=fun h' κ=>by have:=hb.len h' κ;rwa [ba] at this
 have en: ∀(h':AH) (cs:List AV) (ok:Bool) I v5 G v7 H v9 v10 v11 m o p s C D B z A E v76 t v w g l,cs.length=6→ab h' h.length=some (.cells cs y)→ast h b (.tup [.agg cs,.bool ok]) h'→Ends (ast h b) (kcE (CL mx) [.cell 2 29,.tmp 3] ⟨ax bv (.pto h.length 0) (.bool ok) I v5 G v7 H v9 v10 v11 m o p s C D B z A E v76 t v w g l,h'⟩):=by
  intro h' cs ok I v5 G v7 H v9 v10 v11 m o p s C D B z A E v76 t v w g l h6 e1 e2;rw [amH];refine wEq (bg (n:=6) e1 h6 _) ?_;exact Ends.mk e2
 rw [air]
 by_cases hl:b.length<12
 ·have g1:decide ((b.length:Int)<12)=true:=by rw [decide_eq_true_iff];omega
  have z4: ∀κ:Ka,aF 6 (.pto H1.length 0) H2 κ=κ (.agg Z6) H2:=fun κ=>bg (n:=6) b4 rfl κ
  have z2: ∀κ:Ka,ay 6 (.pto h.length 0) (.agg Z6) H2 κ=κ (.tup []) (H2.set h.length (some (.cells Z6 y))):=fun κ=>bB (n:=6) b2 rfl rfl rfl κ
  simp only [sm,←sU,←hH1,←hH2,hlen,n64,g1,z4,z2];rw [iQ];refine en _ Z6 false _ _ _ _ _ _ _ _ _ _ _ _ _ _ _ _ _ _ _ _ _ _ _ _ rfl (aq (by omega) _) ⟨⟨by rw [Bb];omega,fun i hi=>by rw [ae (by omega)];exact o2.2 i hi⟩,?_⟩
  have:iS b=none:=by unfold iS;rw [if_pos hl]
  rw [this];exact ⟨Z6,rfl,rfl,rfl⟩
 have g1:decide ((b.length:Int)<12)=false:=by rw [decide_eq_false_iff_not];omega
 have hne:b≠[]:=by rintro rfl;simp at hl
 have tl: ∀k:Nat,k≤b.length→ ∀(h:AH) (κ:Ka),slS 1 bv (some (N64 k)) none none h κ=κ (.slp (aI (b.drop k)) (b.length-k)) h:=fun k hk=>gC hb hne hk
 have t2: ∀(h:AH) (κ:Ka),slS 1 bv (some (.int 9223372036854775807 2)) none none h κ=κ (.slp (aI (b.drop 2)) (b.length-2)) h:=tl 2 (by omega);have t4: ∀(h:AH) (κ:Ka),slS 1 bv (some (.int 9223372036854775807 4)) none none h κ=κ (.slp (aI (b.drop 4)) (b.length-4)) h:=tl 4 (by omega);have t12: ∀(h:AH) (κ:Ka),slS 1 bv (some (.int 9223372036854775807 12)) none none h κ=κ (.slp (aI (b.drop 12)) (b.length-12)) h:=tl 12 (by omega);have twk: ∀k:Nat,k+2≤b.length→ ∀H1,aH (CL mx) (rl (CL mx) (F+1+1+1+1)).run 28 [.slp (aI (b.drop k)) (b.length-k)] H1=some (N64 (be2 (b.drop k)),H1):=fun k hk H1=>jo (mx:=mx) (iR b k) (hd.drop k) (by rw [Bi];omega) (F+1+1+1) H1
 have tw0:=fun H1=>jo (mx:=mx) hb hd (by omega) (F+1+1+1) H1
 have tw2:=twk 2 (by omega);have tw4:=twk 4 (by omega);have bi:=hd.be2;have bf:=(hd.drop 2).be2;have bq4:=(hd.drop 4).be2;obtain ⟨id,hid⟩: ∃id,id=be2 b:=⟨_,rfl⟩;obtain ⟨fl,hfl⟩: ∃fl,fl=be2 (b.drop 2):=⟨_,rfl⟩;obtain ⟨nq,hnq⟩: ∃nq,nq=be2 (b.drop 4):=⟨_,rfl⟩;rw [←hid] at tw0 bi;rw [←hfl] at tw2 bf;rw [←hnq] at tw4 bq4;have cq0: ∀(h:AH) (κ:Ka),cvI 65535 (.int 9223372036854775807 (id:Int)) h κ=κ (.int 65535 (id:Int)) h:=cvN (by omega);have cq2: ∀(h:AH) (κ:Ka),cvI 65535 (.int 9223372036854775807 (fl:Int)) h κ=κ (.int 65535 (fl:Int)) h:=cvN (by omega);obtain ⟨H3,hH3⟩: ∃H3,H3=H2.set H1.length (some (.cells [.int 65535 (id:Int),.int 65535 0,.aa,.aa,.aa,.aa] y)):=⟨_,rfl⟩;obtain ⟨H4,hH4⟩: ∃H4,H4=H3.set H1.length (some (.cells [.int 65535 (id:Int),.int 65535 (fl:Int),.aa,.aa,.aa,.aa] y)):=⟨_,rfl⟩;have l3:H3.length=H2.length:=by rw [hH3,Bb]
 have l4:H4.length=H2.length:=by rw [hH4,Bb,l3]
 have b43:ab H3 H1.length=some (.cells [.int 65535 (id:Int),.int 65535 0,.aa,.aa,.aa,.aa] y):=by rw [hH3];exact aq (by omega) _
 have st0: ∀κ:Ka,bQ (.pto H1.length 0) (.int 65535 (id:Int)) H2 κ=κ (.tup []) H3:=fun κ=>by rw [fM,b4,hH3];rfl
 have st1: ∀κ:Ka,bQ (.pto H1.length 1) (.int 65535 (fl:Int)) H3 κ=κ (.tup []) H4:=fun κ=>by rw [fM,b43,hH4];rfl
 have b44:ab H4 H1.length=some (.cells [.int 65535 (id:Int),.int 65535 (fl:Int),.aa,.aa,.aa,.aa] y):=by rw [hH4];exact aq (by omega) _
 have b24:ab H4 h.length=some (.cells Z6 y):=by rw [hH4,ae (by omega),hH3,ae (by omega)];exact b2
 have o4:Old h H4:=⟨by omega,fun i hi=>by rw [hH4,ae (by omega),hH3,ae (by omega)];exact o2.2 i hi⟩
 have ltb:=hb.lt;have dl3:decide (H2.length≤H3.length)=true:=decide_eq_true (by omega);have dl4:decide (H3.length≤H4.length)=true:=decide_eq_true (by omega);have db:decide (H1.length<H2.length)=true:=decide_eq_true (by omega);have mp0: ∀(X:AH) (κ:Ka),aj 0 (.pto H1.length 0) X κ=κ (.pto H1.length 0) X:=fun _ _=>rfl
 have mp1: ∀(X:AH) (κ:Ka),aj 1 (.pto H1.length 0) X κ=κ (.pto H1.length 1) X:=fun _ _=>rfl
 simp only [sm,←sU,←hH1,←hH2,hlen,n64,g1];refine wEq (agS ..) ?_;simp only [sm,tw0,n64,A9,cq0,ltb,t2,alK,tw2,cq2,mp0,db,st0,dl3,mp1,st1,dl4];refine wEq (ahK ..) ?_;refine wEq (t12 _ _) ?_;refine wEq (aju ..) ?_;refine wEq (t4 _ _) ?_;simp only [tw4,lC];have bad: ∀(X:AH) (cs':List AV) v5 G v7 H v9 v10 v11 m o p s C D B z A E v76 t v w g l,iS b=none→cs'.length=6→aO cs'=true→ab X h.length=some (.cells cs' y)→Old h X→Ends (ast h b) (kcQ (CL mx) [.cell 2 29,.tmp 3] .ret ⟨ax bv (.pto h.length 0) (.bool false) (.pto H1.length 0) v5 G v7 H v9 v10 v11 m o p s C D B z A E v76 t v w g l,X⟩):=fun X cs' v5 G v7 H v9 v10 v11 m o p s C D B z A E v76 t v w g l e1 e2 e5 e3 e4=>by
  rw [iQ];exact en X cs' false _ _ _ _ _ _ _ _ _ _ _ _ _ _ _ _ _ _ _ _ _ _ _ _ e2 e3 ⟨e4,by rw [e1];exact ⟨cs',rfl,e2,e5⟩⟩
 have hM:iS b=match bR eR nq (b.drop 12) with
  |none=>none
  |some (qs,x0)=>match bR fC (be2 (b.drop 6)) x0 with
   |none=>none
   |some (r0,x1)=>match bR fC (be2 (b.drop 8)) x1 with
    |none=>none
    |some (r1,x2)=>match bR fC (be2 (b.drop 10)) x2 with
     |none=>none
     |some (r2,x3)=>if x3=[] then some ⟨id,fl,qs,r0,r1,r2⟩ else none:=by
  unfold iS;rw [if_neg hl,hnq,hid,hfl];rfl
 have oS: ∀{X:AH},H4.length≤X.length→(∀j,j<H4.length→j≠h.length→j≠H1.length→ab X j=ab H4 j)→Old h X:=fun hl e=>⟨by omega,fun i hi=>(e i (by omega) (by omega) (by omega)).trans (o4.2 i hi)⟩
 refine aiL (mx:=mx) (Hb:=H4) (b2:=h.length) (b4:=H1.length) (n1:=H4.length) (tot:=nq) (y2:=y) (y4:=y) (cs:=[.int 65535 (id:Int),.int 65535 (fl:Int),.aa,.aa,.aa,.aa]) (u:=Z6) (by omega) (by omega) (by omega) rfl b24 rfl rfl rfl (by omega) _ _ _ _ _ _ _ _ _ _ _ _ _ _ _ nq 0 [] (b.drop 12) (F+1+1+1+1) H4 _ .aa _ _ _ _ _ (fun _=>False) [] (by omega) (by omega) (iR b 12) (hd.drop 12) (by rw [Bi];omega) Fx.rfl b44 (fun b hb=>hb.elim) OwR.nil rfl rfl (fun i r x hi=>by simp at hi) (fun L0 c0 hL0 ha rv0 qv G v7 H z A N rows p1 p2 p3 p4 p5 p6 p7=>?_) (fun e h' cs' w5 B G v7 H z A q1 q0 q2 q3=>?_)
 case refine_2=>
  simp only [vY];exact bad h' cs' _ _ _ _ _ _ _ _ _ _ _ _ _ _ _ _ _ _ _ _ _ _ _ (by rw [hM,e]) q1 q0 q2 (oS q3.1 q3.2)
 have kp: ∀{X:AH},Fx H1.length H4 X→Old h X:=fun fx=>oS fx.1 fun j hj _ h2=>fx.2 j hj h2
 have p21:=p2.1;obtain ⟨i1,i2,i3⟩:=jW aeu _ _ _ _ (hd.drop 12) (by rw [Bi];omega) hL0;rw [Bi] at i3;have la:eT QAt ha (fun b=>h.length+2≤b) 4 qv L0:=⟨rows,p5.mono fun b hb hs=>⟨by have:=hs.1;omega,rfl⟩,by rw [p6];rfl,fun i r x hi hx=>(p7 i r x hi hx).mono fun b hb hs=>⟨by have:=(p4 b hs).1;omega,rfl⟩⟩;have ta2:ab ha h.length=some (.cells Z6 y):=(p2.2 h.length (by omega) (by omega)).trans b24;have e4a:ab ha H1.length=some (.cells [.int 65535 (id:Int),.int 65535 (fl:Int),qv,.aa,.aa,.aa] y):=p3;have pq:=p5.plain;have plc: ∀a b c d:AV,a.plain=true→b.plain=true→c.plain=true→d.plain=true→aO [.int 65535 (id:Int),.int 65535 (fl:Int),a,b,c,d]=true:=fun a b c d h1 h2 h3 h4=>by
  show and true (and true (and a.plain (and b.plain (and c.plain (and d.plain true)))))=true;rw [h1,h2,h3,h4];rfl
 simp only [mW,decide_true,bqT];refine wEq (agR ..) ?_;refine wEq (aif ..) ?_;have keep: ∀{h2 h3:AH} (fx:Fx H1.length h2 h3) (b:Nat),b<h2.length→h.length+2≤b→h.length+2≤b∧ab h3 b=ab h2 b:=fun fx b hb hs=>⟨hs,fx.2 b hb (by omega)⟩
 refine pI (mx:=mx) (hc:=ha) (b2:=h.length) (b4:=H1.length) (m0:=h.length+2) (kk:=0) (c:=c0) (by decide) hb hd (by omega) hbl p1 i2 (by omega) (by omega) (by omega) (by omega) (by omega) ta2 rfl rfl (plc _ _ _ _ pq rfl rfl rfl) e4a rfl _ _ _ _ _ _ _ _ _ _ _ _ _ _ _ _ _ _ _ _ _ (F+1+1+1) (by omega) (fun L1 c1 hL1 hb1 rv1 w0 v9 v10 v11 m o p s v76 t v w g l s1 s2 s3 s4 s5=>?_) (fun e h' cs' w5 G v7 H v9 v10 v11 m o p s C D B z A E v76 t v w g l q1 q0 q2 q3=>?_)
 case refine_2=>
  simp only [vY];exact bad h' cs' _ _ _ _ _ _ _ _ _ _ _ _ _ _ _ _ _ _ _ _ _ _ _ (by rw [hM,hL0];dsimp only;rw [e]) q1 q0 q2 (oS (by omega) fun j hj h1 h2=>(q3.2 j (by omega) h1 h2).trans (p2.2 j hj h2))
 have s21:=s2.1;obtain ⟨j1,j2,j3⟩:=jW uN _ _ _ _ i2 (by omega) hL1;have tb2:ab hb1 h.length=some (.cells Z6 y):=(s2.2 h.length (by omega) (by omega)).trans ta2;have e4b:ab hb1 H1.length=some (.cells [.int 65535 (id:Int),.int 65535 (fl:Int),qv,w0,.aa,.aa] y):=s3;refine pI (mx:=mx) (hc:=hb1) (b2:=h.length) (b4:=H1.length) (m0:=h.length+2) (kk:=1) (c:=c1) (by decide) hb hd (by omega) hbl s1 j2 (by omega) (by omega) (by omega) (by omega) (by omega) tb2 rfl rfl (plc _ _ _ _ pq s4 rfl rfl) e4b rfl _ _ _ _ _ _ _ _ _ _ _ _ _ _ _ _ _ _ _ _ _ (F+1+1) (by omega) (fun L2 c2 hL2 hb2 rv2 w1 v9 v10 v11 m o p s v76 t v w g l u1 u2 u3 u4 u5=>?_) (fun e h' cs' w5 G v7 H v9 v10 v11 m o p s C D B z A E v76 t v w g l q1 q0 q2 q3=>?_)
 case refine_2=>
  simp only [vY];exact bad h' cs' _ _ _ _ _ _ _ _ _ _ _ _ _ _ _ _ _ _ _ _ _ _ _ (by rw [hM,hL0];dsimp only;rw [hL1];dsimp only;rw [e]) q1 q0 q2 (oS (by omega) fun j hj h1 h2=>((q3.2 j (by omega) h1 h2).trans (s2.2 j (by omega) h2)).trans (p2.2 j hj h2))
 have u21:=u2.1;obtain ⟨k1,k2,k3⟩:=jW uN _ _ _ _ j2 (by omega) hL2;have tc2:ab hb2 h.length=some (.cells Z6 y):=(u2.2 h.length (by omega) (by omega)).trans tb2;have e4c:ab hb2 H1.length=some (.cells [.int 65535 (id:Int),.int 65535 (fl:Int),qv,w0,w1,.aa] y):=u3;refine pI (mx:=mx) (hc:=hb2) (b2:=h.length) (b4:=H1.length) (m0:=h.length+2) (kk:=2) (c:=c2) (by decide) hb hd (by omega) hbl u1 k2 (by omega) (by omega) (by omega) (by omega) (by omega) tc2 rfl rfl (plc _ _ _ _ pq s4 u4 rfl) e4c rfl _ _ _ _ _ _ _ _ _ _ _ _ _ _ _ _ _ _ _ _ _ (F+1) (by omega) (fun L3 c3 hL3 hb3 rv3 w2 v9 v10 v11 m o p s v76 t v w g l x1 x2 x3 x4 x5=>?_) (fun e h' cs' w5 G v7 H v9 v10 v11 m o p s C D B z A E v76 t v w g l q1 q0 q2 q3=>?_)
 case refine_2=>
  simp only [vY];exact bad h' cs' _ _ _ _ _ _ _ _ _ _ _ _ _ _ _ _ _ _ _ _ _ _ _ (by rw [hM,hL0];dsimp only;rw [hL1];dsimp only;rw [hL2];dsimp only;rw [e]) q1 q0 q2 (oS (by omega) fun j hj h1 h2=>(((q3.2 j (by omega) h1 h2).trans (u2.2 j (by omega) h2)).trans (s2.2 j (by omega) h2)).trans (p2.2 j hj h2))
 have x21:=x2.1;have td2:ab hb3 h.length=some (.cells Z6 y):=(x2.2 h.length (by omega) (by omega)).trans tc2;have e4d:ab hb3 H1.length=some (.cells [.int 65535 (id:Int),.int 65535 (fl:Int),qv,w0,w1,w2] y):=x3;have od:Old h hb3:=kp (((p2.trans s2).trans u2).trans x2);have g3:decide (((2+1:Nat):Int)<3)=false:=by decide
 have hl3: ∀(h':AH) (κ:Ka),bG rv3 h' κ=κ (N64 c3.length) h':=fun h' κ=>by have:=x1.len h' κ;rwa [ba] at this
 refine de (kC mx _) ?_;refine wEq (vE ..) ?_;simp only [sm,n64,g3,mW];refine wEq (aja ..) ?_;refine wEq (bg (n:=6) e4d rfl _) ?_;refine wEq (hl3 _ _) ?_;refine wEq (cmp_eq ..) ?_;obtain ⟨H9,hH9⟩: ∃H9,H9=hb3.set h.length (some (.cells [.int 65535 (id:Int),.int 65535 (fl:Int),qv,w0,w1,w2] y)):=⟨_,rfl⟩;have l9:H9.length=hb3.length:=by rw [hH9,Bb]
 have st9: ∀κ:Ka,ay 6 (.pto h.length 0) (.agg [.int 65535 (id:Int),.int 65535 (fl:Int),qv,w0,w1,w2]) hb3 κ=κ (.tup []) H9:=fun κ=>by rw [hH9];exact bB (n:=6) (q:=[.int 65535 (id:Int),.int 65535 (fl:Int),qv,w0,w1,w2]) td2 rfl rfl (plc _ _ _ _ pq s4 u4 x4) κ
 refine wEq (st9 _) ?_;rw [iQ];have o9:Old h H9:=by rw [hH9];exact od.set (A9 _) _
 have m9:ac8 H9 (fun _=>True) [.int 65535 (id:Int),.int 65535 (fl:Int),qv,w0,w1,w2] ⟨id,fl,L0,L1,L2,L3⟩:=by
  have mo: ∀b,b<hb3.length→h.length+2≤b→True∧ab H9 b=ab hb3 b:=fun b hb hs=>⟨trivial,by rw [hH9,ae (by omega)]⟩
  exact ⟨qv,w0,w1,w2,rfl,(((la.qF (keep s2)).qF (keep u2)).qF (keep x2)).qF mo,((s5.xn (keep u2)).xn (keep x2)).xn mo,(u5.xn (keep x2)).xn mo,x5.xn mo⟩
 refine en H9 [.int 65535 (id:Int),.int 65535 (fl:Int),qv,w0,w1,w2] _ _ _ _ _ _ _ _ _ _ _ _ _ _ _ _ _ _ _ _ _ _ _ _ _ rfl (by rw [hH9];exact aq (by omega) _) ⟨o9,?_⟩
 rw [hM,hL0]
 dsimp only
 rw [hL1]
 dsimp only
 rw [hL2]
 dsimp only
 rw [hL3]
 dsimp only
 by_cases h0:c3=[]
 ·rw [if_pos h0]
  refine ⟨_,?_,m9⟩;rw [h0];rfl
 ·rw [if_neg h0]
  refine ⟨[.int 65535 (id:Int),.int 65535 (fl:Int),qv,w0,w1,w2],?_,rfl,plc _ _ _ _ pq s4 u4 x4⟩
  have:cD (c3.length:Int) 0=false:=by
   rw [va,decide_eq_false_iff_not]
   have:=List.length_pos_iff.2 h0
   omega
  rw [this]
end
noncomputable section
def bL (v0 v1 v2 R J v5 T v7 S v9 v10 v11 D o t g G E v67 F u w B l H d:AV):Tm:=(.nd 34 (.nd 6 (.nd 3 (.nd 1 (.lf 0 v0) (.nd 2 (.lf 1 v1) (.lf 2 v2))) (.nd 4 (.lf 3 R) (.nd 5 (.lf 4 J) (.lf 5 v5)))) (.nd 9 (.nd 7 (.lf 6 T) (.nd 8 (.lf 7 v7) (.lf 8 S))) (.nd 11 (.nd 10 (.lf 9 v9) (.lf 10 v10)) (.nd 32 (.lf 11 v11) (.lf 32 D))))) (.nd 68 (.nd 37 (.nd 35 (.lf 34 o) (.nd 36 (.lf 35 t) (.lf 36 g))) (.nd 65 (.lf 37 G) (.nd 67 (.lf 65 E) (.lf 67 v67)))) (.nd 85 (.nd 80 (.lf 68 F) (.nd 84 (.lf 80 u) (.lf 84 w))) (.nd 87 (.nd 86 (.lf 85 B) (.lf 86 l)) (.nd 133 (.lf 87 H) (.lf 133 d))))))
def ace (mx:Int):K:=kAt [] (kOf (CL mx) 10)
def alp (mx:Int):K:=kAt [1,1,0] (kOf (CL mx) 10)
def alj (mx:Int):K:=kAt [1,1,1] (kOf (CL mx) 10)
def acr (mx:Int):K:=kAt [1,1,0,1,0,0] (kOf (CL mx) 10)
def aoy (mx:Int):K:=kAt [1,1,1,0] (kOf (CL mx) 10)
def apY (mx:Int):K:=kAt [1,1,1,1] (kOf (CL mx) 10)
def zO (mx:Int):K:=kAt [1,1,1,0,1,0,0] (kOf (CL mx) 10)
def apj (mx:Int):K:=kAt [1,1,1,0,1,0,0,1,1,0] (kOf (CL mx) 10)
def alN (mx:Int):K:=kAt [1,1,1,0,1,0,0,1,1,1] (kOf (CL mx) 10)
def ajY (mx:Int):K:=kAt [1,1,1,0,1,0,0,1,1,0,0,1,0] (kOf (CL mx) 10)
def agf (mx:Int):K:=kAt [1,1,1,0,1,0,0,1,1,0,0,1,1] (kOf (CL mx) 10)
def aeH (mx:Int):K:=kAt [1,1,1,0,1,0,0,1,1,0,0,1,0,0] (kOf (CL mx) 10)
def afN (mx:Int):K:=kAt [1,1,1,0,1,0,0,1,1,0,0,1,0,1] (kOf (CL mx) 10)
def zB (mx:Int):K:=kAt [1,1,1,0,1,0,0,1,1,0,0,1,1,1,0,0] (kOf (CL mx) 10)
section
set_option maxRecDepth 100000
variable (mx:Int) (run:Run) (lp:Lp) (κn:Kt) (κx:Ex→Kt) (h:AH) (v0 v1 v2 R J v5 T v7 S v9 v10 v11 D o t g G E v67 F u w B l H d:AV)
theorem ag0:kc (CL mx) run lp (ace mx) ⟨bL v0 v1 v2 R J v5 T v7 S v9 v10 v11 D o t g G E v67 F u w B l H d,h⟩ κn κx=fQ 30 v0 h (fun a0 h=>fQ 30 v1 h (fun a1 h=>aj 0 a0 h (fun a2 h=>ao a2 h (fun a3 h=>aj 0 a1 h (fun a4 h=>ao a4 h (fun a5 h=>cmp ine a3 a5 h (fun a6 h=>aC a6 false (fun κ=>aj 1 a0 h κ) h (fun a7 h=>aC a6 false (fun κ=>ao a7 h κ) h (fun a8 h=>aC a6 false (fun κ=>aj 1 a1 h κ) h (fun a9 h=>aC a6 false (fun κ=>ao a9 h κ) h (fun a10 h=>aC a6 false (fun κ=>cmp ine a8 a10 h κ) h (fun a11 h=>fw a6 (.bool true) a11 h (fun a12 h=>aC a12 false (fun κ=>aj 2 a0 h κ) h (fun a13 h=>aC a12 false (fun κ=>ao a13 h κ) h (fun a14 h=>aC a12 false (fun κ=>bG a14 h κ) h (fun a15 h=>aC a12 false (fun κ=>aj 2 a1 h κ) h (fun a16 h=>aC a12 false (fun κ=>ao a16 h κ) h (fun a17 h=>aC a12 false (fun κ=>bG a17 h κ) h (fun a18 h=>aC a12 false (fun κ=>cmp ine a15 a18 h κ) h (fun a19 h=>fw a12 (.bool true) a19 h (fun a20 h=>bJ a20 (κx .ret ⟨bL v0 v1 a0 a1 (.bool false) v5 T v7 S v9 v10 v11 a20 o t g G E v67 F u w B l H d,h⟩) (kc (CL mx) run lp (alp mx) ⟨bL v0 v1 a0 a1 (.bool false) v5 T v7 S v9 v10 v11 a20 o t g G E v67 F u w B l H d,h⟩ (fun s=>kc (CL mx) run lp (alj mx) s κn κx) κx)))))))))))))))))))))):=by kernel_rfl
theorem ajp:kc (CL mx) run lp (alp mx) ⟨bL v0 v1 v2 R J v5 T v7 S v9 v10 v11 D o t g G E v67 F u w B l H d,h⟩ κn κx=aj 2 v2 h (fun a0 h=>ao a0 h (fun a1 h=>bG a1 h (fun a2 h=>kcR κn (kcO 0 κn κx) (lp (acr mx) ⟨bL v0 v1 v2 R J v5 T v7 S v9 v10 v11 D a1 a2 (.int 9223372036854775807 0) G E v67 F u w B l H d,h⟩)))):=by kernel_rfl
theorem aiJ:kc (CL mx) run lp (alj mx) ⟨bL v0 v1 v2 R J v5 T v7 S v9 v10 v11 D o t g G E v67 F u w B l H d,h⟩ κn κx=kc (CL mx) run lp (aoy mx) ⟨bL v0 v1 v2 R J v5 T v7 S v9 v10 v11 D o t g G E v67 F u w B l H d,h⟩ (fun s=>kc (CL mx) run lp (apY mx) s κn κx) κx:=by kernel_rfl
theorem xR:kc (CL mx) run lp (acr mx) ⟨bL v0 v1 v2 R J v5 T v7 S v9 v10 v11 D o t g G E v67 F u w B l H d,h⟩ κn κx=cmp ilt g t h (fun a0 h=>bJ a0 (bM 4 o g h (fun a1 h=>aF 4 a1 h (fun a2 h=>cU h (.cells [.aa,.int 9223372036854775807 0,.int 65535 0,.int 65535 0] 50) (fun a3 h=>ay 4 a3 a2 h (fun a4 h=>aj 2 R h (fun a5 h=>ao a5 h (fun a6 h=>bM 4 a6 g h (fun a7 h=>aF 4 a7 h (fun a8 h=>cU h (.cells [.aa,.int 9223372036854775807 0,.int 65535 0,.int 65535 0] 50) (fun a9 h=>ay 4 a9 a8 h (fun a10 h=>aj 0 a3 h (fun a11 h=>aF 2 a11 h (fun a12 h=>aj 0 a9 h (fun a13 h=>aF 2 a13 h (fun a14 h=>aP (fun a15 h=>oE a15 h (fun a16 h=>aC a16 false (fun κ=>aj 2 a3 h κ) h (fun a17 h=>aC a16 false (fun κ=>ao a17 h κ) h (fun a18 h=>aC a16 false (fun κ=>aj 2 a9 h κ) h (fun a19 h=>aC a16 false (fun κ=>ao a19 h κ) h (fun a20 h=>aC a16 false (fun κ=>cmp ine a18 a20 h κ) h (fun a21 h=>fw a16 (.bool true) a21 h (fun a22 h=>aC a22 false (fun κ=>aj 3 a3 h κ) h (fun a23 h=>aC a22 false (fun κ=>ao a23 h κ) h (fun a24 h=>aC a22 false (fun κ=>aj 3 a9 h κ) h (fun a25 h=>aC a22 false (fun κ=>ao a25 h κ) h (fun a26 h=>aC a22 false (fun κ=>cmp ine a24 a26 h κ) h (fun a27 h=>fw a22 (.bool true) a27 h (fun a28 h=>bJ a28 (κx .ret ⟨bL v0 v1 v2 R (.bool false) g a3 a9 S v9 v10 v11 D o t g a0 a28 v67 F u w B l H d,h⟩) (arith cg g (.int 9223372036854775807 1) h (fun a29 h=>κn ⟨bL v0 v1 v2 R J g a3 a9 S v9 v10 v11 D o t a29 a0 a28 v67 F u w B l H d,h⟩)))))))))))))))) (aH (CL mx) run 30 [a12,a14] h)))))))))))))))) (κx (.exit 0) ⟨bL v0 v1 v2 R J v5 T v7 S v9 v10 v11 D o t g a0 E v67 F u w B l H d,h⟩)):=by kernel_rfl
theorem agZ:kc (CL mx) run lp (aoy mx) ⟨bL v0 v1 v2 R J v5 T v7 S v9 v10 v11 D o t g G E v67 F u w B l H d,h⟩ κn κx=kcR κn (kcO 2 κn κx) (lp (zO mx) ⟨bL v0 v1 v2 R J v5 T v7 S v9 v10 v11 D o t g G E (.int 9223372036854775807 0) F u w B l H d,h⟩):=by kernel_rfl
theorem agL:kc (CL mx) run lp (apY mx) ⟨bL v0 v1 v2 R J v5 T v7 S v9 v10 v11 D o t g G E v67 F u w B l H d,h⟩ κn κx=κx .ret ⟨bL v0 v1 v2 R (.bool true) v5 T v7 S v9 v10 v11 D o t g G E v67 F u w B l H d,h⟩:=by kernel_rfl
theorem wU:kc (CL mx) run lp (zO mx) ⟨bL v0 v1 v2 R J v5 T v7 S v9 v10 v11 D o t g G E v67 F u w B l H d,h⟩ κn κx=cmp ilt v67 (.int 9223372036854775807 3) h (fun a0 h=>bJ a0 (kc (CL mx) run lp (apj mx) ⟨bL v0 v1 v2 R J v5 T v7 S v9 v10 v11 D o t g G E v67 a0 u w B l H d,h⟩ (fun s=>kc (CL mx) run lp (alN mx) s κn κx) κx) (κx (.exit 2) ⟨bL v0 v1 v2 R J v5 T v7 S v9 v10 v11 D o t g G E v67 a0 u w B l H d,h⟩)):=by kernel_rfl
theorem ajr:kc (CL mx) run lp (apj mx) ⟨bL v0 v1 v2 R J v5 T v7 S v9 v10 v11 D o t g G E v67 F u w B l H d,h⟩ κn κx=kc (CL mx) run lp (ajY mx) ⟨bL v0 v1 v2 R J v5 T v7 v67 v9 v10 v11 D o t g G E v67 F u w B l H d,h⟩ (fun s=>kc (CL mx) run lp (agf mx) s κn (kcO 3 κn κx)) (kcO 3 κn κx):=by kernel_rfl
theorem ain:kc (CL mx) run lp (alN mx) ⟨bL v0 v1 v2 R J v5 T v7 S v9 v10 v11 D o t g G E v67 F u w B l H d,h⟩ κn κx=arith cg v67 (.int 9223372036854775807 1) h (fun a0 h=>κn ⟨bL v0 v1 v2 R J v5 T v7 S v9 v10 v11 D o t g G E a0 F u w B l H d,h⟩):=by kernel_rfl
theorem ag3:kc (CL mx) run lp (ajY mx) ⟨bL v0 v1 v2 R J v5 T v7 S v9 v10 v11 D o t g G E v67 F u w B l H d,h⟩ κn κx=kc (CL mx) run lp (aeH mx) ⟨bL v0 v1 v2 R J v5 T v7 S v9 v10 v11 D o t g G E v67 F u w B l H d,h⟩ (fun s=>kc (CL mx) run lp (afN mx) s κn κx) κx:=by kernel_rfl
theorem adm:kc (CL mx) run lp (agf mx) ⟨bL v0 v1 v2 R J v5 T v7 S v9 v10 v11 D o t g G E v67 F u w B l H d,h⟩ κn κx=aj 3 v2 h (fun a0 h=>kn 3 1 a0 S h (fun a1 h=>ao a1 h (fun a2 h=>bG a2 h (fun a3 h=>kcR κn (kcO 4 κn κx) (lp (zB mx) ⟨bL v0 v1 v2 R J v5 T v7 S v9 v10 v11 D o t g G E v67 F u a2 a3 (.int 9223372036854775807 0) H d,h⟩))))):=by kernel_rfl
theorem aco:kc (CL mx) run lp (aeH mx) ⟨bL v0 v1 v2 R J v5 T v7 S v9 v10 v11 D o t g G E v67 F u w B l H d,h⟩ κn κx=aj 3 v2 h (fun a0 h=>kn 3 1 a0 S h (fun a1 h=>ao a1 h (fun a2 h=>bG a2 h (fun a3 h=>aj 3 R h (fun a4 h=>kn 3 1 a4 S h (fun a5 h=>ao a5 h (fun a6 h=>bG a6 h (fun a7 h=>cmp ine a3 a7 h (fun a8 h=>κn ⟨bL v0 v1 v2 R J v5 T v7 S v9 v10 v11 D o t g G E v67 F a8 w B l H d,h⟩))))))))):=(cA (C:=CL mx) (ops:=opsOf (cAt [1,1,1,0,1,0,0,1,1,0,0,1,0,0] (bS (CL mx) 10))) (ps:=[0,1,2,3,4,5,6,7,8,9,10,11,32,34,35,36,37,65,67,68,80,84,85,86,87,133]) (by kernel_rfl) (by kernel_rfl) _ _ _).trans (by kernel_rfl)
theorem acI:kc (CL mx) run lp (afN mx) ⟨bL v0 v1 v2 R J v5 T v7 S v9 v10 v11 D o t g G E v67 F u w B l H d,h⟩ κn κx=bJ u (κx .ret ⟨bL v0 v1 v2 R (.bool false) v5 T v7 S v9 v10 v11 D o t g G E v67 F u w B l H d,h⟩) (κn ⟨bL v0 v1 v2 R J v5 T v7 S v9 v10 v11 D o t g G E v67 F u w B l H d,h⟩):=by kernel_rfl
theorem vN:kc (CL mx) run lp (zB mx) ⟨bL v0 v1 v2 R J v5 T v7 S v9 v10 v11 D o t g G E v67 F u w B l H d,h⟩ κn κx=cmp ilt l B h (fun a0 h=>bJ a0 (bM 6 w l h (fun a1 h=>aF 6 a1 h (fun a2 h=>cU h (.cells [.aa,.int 9223372036854775807 0,.int 65535 0,.int 65535 0,.int 4294967295 0,.aa] 53) (fun a3 h=>ay 6 a3 a2 h (fun a4 h=>aj 3 R h (fun a5 h=>kn 3 1 a5 S h (fun a6 h=>ao a6 h (fun a7 h=>bM 6 a7 l h (fun a8 h=>aF 6 a8 h (fun a9 h=>cU h (.cells [.aa,.int 9223372036854775807 0,.int 65535 0,.int 65535 0,.int 4294967295 0,.aa] 53) (fun a10 h=>ay 6 a10 a9 h (fun a11 h=>aj 0 a3 h (fun a12 h=>aF 2 a12 h (fun a13 h=>aj 0 a10 h (fun a14 h=>aF 2 a14 h (fun a15 h=>aP (fun a16 h=>oE a16 h (fun a17 h=>aC a17 false (fun κ=>aj 2 a3 h κ) h (fun a18 h=>aC a17 false (fun κ=>ao a18 h κ) h (fun a19 h=>aC a17 false (fun κ=>aj 2 a10 h κ) h (fun a20 h=>aC a17 false (fun κ=>ao a20 h κ) h (fun a21 h=>aC a17 false (fun κ=>cmp ine a19 a21 h κ) h (fun a22 h=>fw a17 (.bool true) a22 h (fun a23 h=>aC a23 false (fun κ=>aj 3 a3 h κ) h (fun a24 h=>aC a23 false (fun κ=>ao a24 h κ) h (fun a25 h=>aC a23 false (fun κ=>aj 3 a10 h κ) h (fun a26 h=>aC a23 false (fun κ=>ao a26 h κ) h (fun a27 h=>aC a23 false (fun κ=>cmp ine a25 a27 h κ) h (fun a28 h=>fw a23 (.bool true) a28 h (fun a29 h=>aC a29 false (fun κ=>aj 4 a3 h κ) h (fun a30 h=>aC a29 false (fun κ=>ao a30 h κ) h (fun a31 h=>aC a29 false (fun κ=>aj 4 a10 h κ) h (fun a32 h=>aC a29 false (fun κ=>ao a32 h κ) h (fun a33 h=>aC a29 false (fun κ=>cmp ine a31 a33 h κ) h (fun a34 h=>fw a29 (.bool true) a34 h (fun a35 h=>aC a35 false (fun κ=>aj 5 a3 h κ) h (fun a36 h=>aC a35 false (fun κ=>ao a36 h κ) h (fun a37 h=>aC a35 false (fun κ=>dD a37 h κ) h (fun a38 h=>aC a35 false (fun κ=>aj 5 a10 h κ) h (fun a39 h=>aC a35 false (fun κ=>ao a39 h κ) h (fun a40 h=>aC a35 false (fun κ=>dD a40 h κ) h (fun a41 h=>aC a35 false (fun κ=>jl neS a38 a41 h κ) h (fun a42 h=>fw a35 (.bool true) a42 h (fun a43 h=>bJ a43 (κx .ret ⟨bL v0 v1 v2 R (.bool false) v5 T v7 S l a3 a10 D o t g G E v67 F u w B l a0 a43,h⟩) (arith cg l (.int 9223372036854775807 1) h (fun a44 h=>κn ⟨bL v0 v1 v2 R J v5 T v7 S l a3 a10 D o t g G E v67 F u w B a44 a0 a43,h⟩)))))))))))))))))))))))))))))) (aH (CL mx) run 30 [a13,a15] h))))))))))))))))) (κx (.exit 4) ⟨bL v0 v1 v2 R J v5 T v7 S v9 v10 v11 D o t g G E v67 F u w B l a0 d,h⟩)):=by kernel_rfl
theorem aoX:kcE (CL mx) [.tmp 4] ⟨bL v0 v1 v2 R J v5 T v7 S v9 v10 v11 D o t g G E v67 F u w B l H d,h⟩=some (.vh J h):=(bW _ _ _).trans (by kernel_rfl)
theorem asK:dz (CL mx) 10=some ⟨ace mx,[0,1,2,3,4,5,6,7,8,9,10,11,32,34,35,36,37,65,67,68,80,84,85,86,87,133],136,[.tmp 4]⟩:=by kernel_rfl
end
theorem aom (mx:Int) (run:Run) (lp:Lp) (x0 x1:AV) (h:AH):dk (CL mx) run lp 10 [x0,x1] h=vhO (kc (CL mx) run lp (ace mx) ⟨bL x0 x1 .bot .bot .bot .bot .bot .bot .bot .bot .bot .bot .bot .bot .bot .bot .bot .bot .bot .bot .bot .bot .bot .bot .bot .bot,h⟩ (kcE (CL mx) [.tmp 4]) (kcQ (CL mx) [.tmp 4])):=(bV (by kernel_rfl) (asK mx) (by kernel_rfl)).trans (by kernel_rfl)
theorem kW (mx:Int) (p:List Nat):eQ (CL mx) (kAt p (kOf (CL mx) 10)):=iX p (iT (CL mx) 10)
def yZ (v0 v1 v2 R J:AV):Tm:=(.nd 2 (.nd 1 (.lf 0 v0) (.lf 1 v1)) (.nd 3 (.lf 2 v2) (.nd 4 (.lf 3 R) (.lf 4 J))))
def acC (mx:Int):K:=kAt [] (kOf (CL mx) 30)
section
set_option maxRecDepth 100000
variable (mx:Int) (run:Run) (lp:Lp) (κn:Kt) (κx:Ex→Kt) (h:AH) (v0 v1 v2 R J:AV)
theorem ajB:kc (CL mx) run lp (acC mx) ⟨yZ v0 v1 v2 R J,h⟩ κn κx=fQ 48 v0 h (fun a0 h=>fQ 48 v1 h (fun a1 h=>aj 0 a0 h (fun a2 h=>ao a2 h (fun a3 h=>aj 0 a1 h (fun a4 h=>ao a4 h (fun a5 h=>aP (fun a6 h=>aC a6 true (fun κ=>aj 1 a0 h κ) h (fun a7 h=>aC a6 true (fun κ=>ao a7 h κ) h (fun a8 h=>aC a6 true (fun κ=>aj 1 a1 h κ) h (fun a9 h=>aC a6 true (fun κ=>ao a9 h κ) h (fun a10 h=>aC a6 true (fun κ=>cmp cD a8 a10 h κ) h (fun a11 h=>fw a6 a11 (.bool false) h (fun a12 h=>κx .ret ⟨yZ v0 v1 a0 a1 a12,h⟩))))))) (aH (CL mx) run 20 [a3,a5] h))))))):=by kernel_rfl
theorem ap9:kcE (CL mx) [.tmp 4] ⟨yZ v0 v1 v2 R J,h⟩=some (.vh J h):=(bW _ _ _).trans (by kernel_rfl)
theorem asv:dz (CL mx) 30=some ⟨acC mx,[0,1,2,3,4],17,[.tmp 4]⟩:=by kernel_rfl
end
theorem ak0 (mx:Int) (run:Run) (lp:Lp) (x0 x1:AV) (h:AH):dk (CL mx) run lp 30 [x0,x1] h=vhO (kc (CL mx) run lp (acC mx) ⟨yZ x0 x1 .bot .bot .bot,h⟩ (kcE (CL mx) [.tmp 4]) (kcQ (CL mx) [.tmp 4])):=(bV (by kernel_rfl) (asv mx) (by kernel_rfl)).trans (by kernel_rfl)
def cY (v0 v1 J v5 v10 P O N I:AV):Tm:=(.nd 10 (.nd 4 (.nd 1 (.lf 0 v0) (.lf 1 v1)) (.nd 5 (.lf 4 J) (.lf 5 v5))) (.nd 13 (.nd 12 (.lf 10 v10) (.lf 12 P)) (.nd 14 (.lf 13 O) (.nd 24 (.lf 14 N) (.lf 24 I)))))
def acy (mx:Int):K:=kAt [] (kOf (CL mx) 20)
def ak7 (mx:Int):K:=kAt [1,1,0] (kOf (CL mx) 20)
def ak5 (mx:Int):K:=kAt [1,1,1] (kOf (CL mx) 20)
def adE (mx:Int):K:=kAt [1,1,0,1,0,0] (kOf (CL mx) 20)
def akV (mx:Int):K:=kAt [1,1,0,1,0,0,1,1,0] (kOf (CL mx) 20)
def an4 (mx:Int):K:=kAt [1,1,0,1,0,0,1,1,1] (kOf (CL mx) 20)
def anS (mx:Int):K:=kAt [1,1,0,1,0,0,1,1,0,0,1,0] (kOf (CL mx) 20)
def aoT (mx:Int):K:=kAt [1,1,0,1,0,0,1,1,0,0,1,1] (kOf (CL mx) 20)
section
set_option maxRecDepth 100000
variable (mx:Int) (run:Run) (lp:Lp) (κn:Kt) (κx:Ex→Kt) (h:AH) (v0 v1 J v5 v10 P O N I:AV)
theorem ahF:kc (CL mx) run lp (acy mx) ⟨cY v0 v1 J v5 v10 P O N I,h⟩ κn κx=bG v0 h (fun a0 h=>bG v1 h (fun a1 h=>cmp ine a0 a1 h (fun a2 h=>bJ a2 (κx .ret ⟨cY v0 v1 (.bool false) v5 a2 P O N I,h⟩) (kc (CL mx) run lp (ak7 mx) ⟨cY v0 v1 (.bool false) v5 a2 P O N I,h⟩ (fun s=>kc (CL mx) run lp (ak5 mx) s κn κx) κx)))):=by kernel_rfl
theorem aiR:kc (CL mx) run lp (ak7 mx) ⟨cY v0 v1 J v5 v10 P O N I,h⟩ κn κx=bG v0 h (fun a0 h=>kcR κn (kcO 0 κn κx) (lp (adE mx) ⟨cY v0 v1 J v5 v10 a0 (.int 9223372036854775807 0) N I,h⟩)):=by kernel_rfl
theorem ajv:kc (CL mx) run lp (ak5 mx) ⟨cY v0 v1 J v5 v10 P O N I,h⟩ κn κx=κx .ret ⟨cY v0 v1 (.bool true) v5 v10 P O N I,h⟩:=by kernel_rfl
theorem agT:kc (CL mx) run lp (adE mx) ⟨cY v0 v1 J v5 v10 P O N I,h⟩ κn κx=cmp ilt O P h (fun a0 h=>bJ a0 (kc (CL mx) run lp (akV mx) ⟨cY v0 v1 J v5 v10 P O a0 I,h⟩ (fun s=>kc (CL mx) run lp (an4 mx) s κn κx) κx) (κx (.exit 0) ⟨cY v0 v1 J v5 v10 P O a0 I,h⟩)):=by kernel_rfl
theorem ahh:kc (CL mx) run lp (akV mx) ⟨cY v0 v1 J v5 v10 P O N I,h⟩ κn κx=kc (CL mx) run lp (anS mx) ⟨cY v0 v1 J O v10 P O N I,h⟩ (fun s=>kc (CL mx) run lp (aoT mx) s κn (kcO 1 κn κx)) (kcO 1 κn κx):=by kernel_rfl
theorem ahy:kc (CL mx) run lp (an4 mx) ⟨cY v0 v1 J v5 v10 P O N I,h⟩ κn κx=arith cg O (.int 9223372036854775807 1) h (fun a0 h=>κn ⟨cY v0 v1 J v5 v10 P a0 N I,h⟩):=by kernel_rfl
theorem aii:kc (CL mx) run lp (anS mx) ⟨cY v0 v1 J v5 v10 P O N I,h⟩ κn κx=bM 1 v0 v5 h (fun a0 h=>ao a0 h (fun a1 h=>bM 1 v1 v5 h (fun a2 h=>ao a2 h (fun a3 h=>jl neS a1 a3 h (fun a4 h=>κn ⟨cY v0 v1 J v5 v10 P O N a4,h⟩))))):=(cA (C:=CL mx) (ops:=opsOf (cAt [1,1,0,1,0,0,1,1,0,0,1,0] (bS (CL mx) 20))) (ps:=[0,1,4,5,10,12,13,14,24]) (by kernel_rfl) (by kernel_rfl) _ _ _).trans (by kernel_rfl)
theorem ais:kc (CL mx) run lp (aoT mx) ⟨cY v0 v1 J v5 v10 P O N I,h⟩ κn κx=bJ I (κx .ret ⟨cY v0 v1 (.bool false) v5 v10 P O N I,h⟩) (κn ⟨cY v0 v1 J v5 v10 P O N I,h⟩):=by kernel_rfl
theorem aka:kcE (CL mx) [.tmp 4] ⟨cY v0 v1 J v5 v10 P O N I,h⟩=some (.vh J h):=(bW _ _ _).trans (by kernel_rfl)
theorem arC:dz (CL mx) 20=some ⟨acy mx,[0,1,4,5,10,12,13,14,24],26,[.tmp 4]⟩:=by kernel_rfl
end
theorem apx (mx:Int) (run:Run) (lp:Lp) (x0 x1:AV) (h:AH):dk (CL mx) run lp 20 [x0,x1] h=vhO (kc (CL mx) run lp (acy mx) ⟨cY x0 x1 .bot .bot .bot .bot .bot .bot .bot,h⟩ (kcE (CL mx) [.tmp 4]) (kcQ (CL mx) [.tmp 4])):=(bV (by kernel_rfl) (arC mx) (by kernel_rfl)).trans (by kernel_rfl)
theorem aaP (mx:Int) (p:List Nat):eQ (CL mx) (kAt p (kOf (CL mx) 20)):=iX p (iT (CL mx) 20)
def oT:=Du @ahF (Du @aiR (Du @ajv (Du @agT (Du @ahh (Du @ahy (Du @aii (Du @ais (@aka))))))))
end
theorem aqf (a b:List Nat):eqS a b=decide (a=b):=by
 by_cases e:a=b
 ·subst e;rw [nM,decide_eq_true rfl]
 ·rw [decide_eq_false e,BD]
  exact fun c=>e (yN _ _ c)
theorem art (a b:List Nat):neS a b=decide (a≠b):=by
 unfold neS;rw [aqf]
 by_cases e:a=b<;>simp [e]
section
variable {mx:Int} {Q:Option Rs→Prop} {κn:Kt} {κx:Ex→Kt} {v0:AV} {L:List (List Nat)} {n:List Nat} {h:AH}
theorem amR {v1 J v10:AV} {M:List (List Nat)} (h0:cW h v0 (eS L)) (h1:cW h v1 (eS M)) (hl:L.length=M.length) (hb:L.length≤1000000): ∀(k i f:Nat) (v5 N I:AV),i+k=L.length→k+2≤f→(∀j,j<i→L[j]? =M[j]?)→
 (L=M→ ∀v5 N I,Q (κx (.exit 0) ⟨cY v0 v1 J v5 v10 (.int 9223372036854775807 (L.length:Int)) (.int 9223372036854775807 (L.length:Int)) N I,h⟩))→
 (L≠M→ ∀v5 O N I,Q (κx .ret ⟨cY v0 v1 (.bool false) v5 v10 (.int 9223372036854775807 (L.length:Int)) O N I,h⟩))→
 Q (kcR κn κx ((rl (CL mx) f).lp (adE mx) ⟨cY v0 v1 J v5 v10 (.int 9223372036854775807 (L.length:Int)) (.int 9223372036854775807 (i:Int)) N I,h⟩)):=by
 intro k
 induction k with
 |zero=>
  intro i f v5 N I hi hf he hk hr;obtain ⟨f,rfl⟩:=fuel hf;obtain rfl:i=L.length:=by omega
  refine de (aaP mx _) ?_;simp only [sy,A7,seval,oT,Df];refine hk (Cz fun j=>?_) _ _ _
  by_cases hj:j<L.length
  ·exact he j hj
  ·rw [BC (by omega),BC (by omega)]
 |succ k ih=>
  intro i f v5 N I hi hf he hk hr;obtain ⟨f,rfl⟩:=fuel hf;have hlt:i<L.length:=by omega
  obtain ⟨x,ex⟩: ∃x,L[i]? =some x:=⟨_,Bd hlt⟩;obtain ⟨y,ey⟩: ∃y,M[i]? =some y:=⟨_,Bd (by omega)⟩;obtain ⟨p,_,p2,p3⟩:=h0.idx (xY ex);obtain ⟨q,_,q2,q3⟩:=h1.idx (xY ey);have e1:decide ((i:Int)<(L.length:Int))=true:=by rw [decide_eq_true_iff];omega
  have e4:aQ 9223372036854775807 ((i:Int)+1)=((i+1:Nat):Int):=by rw [bp (by omega) (by omega)];simp
  refine de (aaP mx _) ?_
  by_cases hxy:x=y
  ·subst hxy
   have e2:neS x x=false:=by unfold neS;rw [nM];rfl
   simp only [sy,A7,seval,oT,e1,p2,p3,q2,q3,e2,e4];refine ih (i+1) (f+k+2) _ _ _ (by omega) (by omega) (fun j hj=>?_) hk hr
   by_cases hj':j=i
   ·rw [hj',ex,ey]
   ·exact he j (by omega)
  ·have e2:neS x y=true:=by rw [art];simp [hxy]
   simp only [sy,A7,seval,oT,e1,p2,p3,q2,q3,e2];exact hr (fun c=>hxy (by rw [c,ey] at ex;exact (Cb ex).symm)) _ _ _ _
theorem ahU {v1:AV} {M:List (List Nat)} (h0:cW h v0 (eS L)) (h1:cW h v1 (eS M)) (hb:L.length≤1000000) (f:Nat) (hf:L.length+3≤f):
 aL (fun r h'=>r= .bool (decide (L=M))∧h'=h) ((rl (CL mx) f).run 20 [v0,v1] h):=by
 obtain ⟨f,rfl⟩:=fuel hf;refine aL.runs (n:=f+L.length+2) (apx mx _ _ _ _ _) ?_;have l0:=fun κ=>h0.bG h κ
 have l1:=fun κ=>h1.bG h κ
 rw [rK] at l0 l1
 by_cases hl:(L.length:Int)=(M.length:Int)
 ·simp only [sy,A7,seval,oT,l0,l1,hl,ne_eq,not_true_eq_false]
  have hl:L.length=M.length:=by omega
  rw [←hl];refine amR h0 h1 hl hb L.length 0 _ _ _ _ (by omega) (by omega) (fun j hj=>by omega) (fun e v5 N I=>?_) (fun e v5 O N I=>?_)
  ·simp only [sy,A7,seval,oT]
   exact Ends.mk ⟨by rw [decide_eq_true e],rfl⟩
  ·simp only [sy,A7,seval,oT]
   exact Ends.mk ⟨by rw [decide_eq_false e],rfl⟩
 ·simp only [sy,A7,seval,oT,l0,l1,ne_eq,hl,not_false_eq_true]
  exact Ends.mk ⟨by rw [decide_eq_false];intro c;rw [c] at hl;exact hl rfl,rfl⟩
end
def QS (h:AH) (r:List AV) (x:DQ):Prop:=∃lv,r=[lv,.int 9223372036854775807 x.name.ptr,.int 65535 (x.ty:Int),.int 65535 (x.cls:Int)]∧cW h lv (eS x.name.labels)
def RS' (h:AH) (r:List AV) (x:DR):Prop:=∃lv dv,r=[lv,.int 9223372036854775807 x.name.ptr,.int 65535 (x.ty:Int),.int 65535 (x.cls:Int),.int 4294967295 (x.ttl:Int),dv]∧cW h lv (eS x.name.labels)∧cW h dv (aI x.dat)
def LS {α:Type} (A:AH→List AV→α→Prop) (h:AH) (z:Nat) (v:AV) (L:List α):Prop:=∃rows,OwR h (fun _=>True) z v rows∧rows.length=L.length∧ ∀(i:Nat) r x,rows[i]? =some r→L[i]? =some x→A h r x
def lA (h:AH) (cs:List AV) (m:rZ):Prop:=∃q v0 v1 v2,cs=[.int 65535 (m.id:Int),.int 65535 (m.flags:Int),q,v0,v1,v2]∧LS QS h 4 q m.qs∧LS RS' h 6 v0 m.r0∧LS RS' h 6 v1 m.r1∧LS RS' h 6 v2 m.r2
def sm2:=Du sm<|Du @tR<|Du @BE<|Du @dK<|Du @alu<|Du @xO<|Du @ineE<|Du @va<|Du @ne_eq.{1}<|Du @not_true_eq_false<| @decide_false
section
variable {mx:Int} {h h' h1:AH} {Q:Option Rs→Prop} {κn:Kt} {κx:Ex→Kt}
theorem QS.up {r:List AV} {x:DQ} (o:Old h h') (q:QS h r x):QS h' r x:=by
 obtain ⟨lv,e,s⟩:=q;exact ⟨lv,e,s.up o⟩
theorem RS'.up {r:List AV} {x:DR} (o:Old h h') (q:RS' h r x):RS' h' r x:=by
 obtain ⟨lv,dv,e,s,d⟩:=q;exact ⟨lv,dv,e,s.up o,d.up o⟩
theorem LS.upq {z:Nat} {v:AV} {L:List DQ} (o:Old h h') (l:LS QS h z v L):LS QS h' z v L:=by
 obtain ⟨rows,w,e,r⟩:=l;exact ⟨rows,w.mono fun b hb _=>⟨trivial,o.2 b hb⟩,e,fun i a x h1 h2=>(r i a x h1 h2).up o⟩
theorem LS.upr {z:Nat} {v:AV} {L:List DR} (o:Old h h') (l:LS RS' h z v L):LS RS' h' z v L:=by
 obtain ⟨rows,w,e,r⟩:=l;exact ⟨rows,w.mono fun b hb _=>⟨trivial,o.2 b hb⟩,e,fun i a x h1 h2=>(r i a x h1 h2).up o⟩
theorem lA.up {cs:List AV} {m:rZ} (o:Old h h') (s:lA h cs m):lA h' cs m:=by
 obtain ⟨q,v0,v1,v2,e,a,b,c,d⟩:=s;exact ⟨q,v0,v1,v2,e,a.upq o,b.upr o,c.upr o,d.upr o⟩
theorem LS.ofq {z:Nat} {v:AV} {L:List DQ} {S:Nat→Prop} (l:eT QAt h S z v L):LS QS h z v L:=by
 obtain ⟨rows,w,e,r⟩:=l;refine ⟨rows,w.mono fun b hb _=>⟨trivial,rfl⟩,e,fun i a x h1 h2=>?_⟩;obtain ⟨lv,pv,e,rfl,s⟩:=r i a x h1 h2;exact ⟨lv,e,s.at⟩
theorem LS.ofr {z:Nat} {v:AV} {L:List DR} {S:Nat→Prop} (l:eT RAt h S z v L):LS RS' h z v L:=by
 obtain ⟨rows,w,e,r⟩:=l;refine ⟨rows,w.mono fun b hb _=>⟨trivial,rfl⟩,e,fun i a x h1 h2=>?_⟩;obtain ⟨lv,pv,dv,e,⟨rfl,s⟩,d⟩:=r i a x h1 h2;exact ⟨lv,dv,e,s.at,d.at⟩
theorem LS.ofl {z:Nat} {v:AV} {L:List DR} {S:Nat→Prop} (l:eT tA h S z v L):LS RS' h z v L:=by
 obtain ⟨rows,w,e,r⟩:=l;refine ⟨rows,w.mono fun b hb _=>⟨trivial,rfl⟩,e,fun i a x h1 h2=>?_⟩;obtain ⟨lv,pv,dv,e,⟨rfl,s⟩,d⟩:=r i a x h1 h2;exact ⟨lv,dv,e,s.at,d.at h⟩
theorem lA.of {cs:List AV} {m:rZ} {S:Nat→Prop} (s:amG h S cs m):lA h cs m:=by
 obtain ⟨q,v0,v1,v2,e,a,b,c,d⟩:=s;exact ⟨q,v0,v1,v2,e,.ofq a,.ofr b,.ofr c,.ofr d⟩
theorem lA.ofl {cs:List AV} {m:rZ} {S:Nat→Prop} (s:ac8 h S cs m):lA h cs m:=by
 obtain ⟨q,v0,v1,v2,e,a,b,c,d⟩:=s;exact ⟨q,v0,v1,v2,e,.ofq a,.ofl b,.ofl c,.ofl d⟩
theorem lA.zero:lA h Z6 ⟨0,0,[],[],[],[]⟩:=⟨.aa,.aa,.aa,.aa,rfl,⟨[],OwR.nil,rfl,fun i r x h=>by simp at h⟩,⟨[],OwR.nil,rfl,fun i r x h=>by simp at h⟩,⟨[],OwR.nil,rfl,fun i r x h=>by simp at h⟩,⟨[],OwR.nil,rfl,fun i r x h=>by simp at h⟩⟩
theorem ldc {b y j:Nat} {cs:List AV} {c:AV} (e:ab h b=some (.cells cs y)) (hc:cs[j]? =some c) (κ:Ka):ao (.pto b j) h κ=κ c h:=by
 rw [lE,e,aT];show au cs[j]? (fun v=>κ v h)=_;rw [hc];rfl
theorem asR {b y:Nat} {a c:AV} {cs:List AV} (e:ab h b=some (.cells (a::c::cs) y)) (κ:Ka):aF 2 (.pto b 0) h κ=κ (.agg [a,c]) h:=by
 rw [jJ,e,aT];show bq (decide (0+2≤cs.length+1+1)) (κ (.agg [a,c]) h) none=_;rw [decide_eq_true (by omega)];rfl
theorem LS.el {α:Type} {A:AH→List AV→α→Prop} {z:Nat} {v:AV} {L:List α} (l:LS A h z v L) {i:Nat} {x:α} (hx:L[i]? =some x): ∃r P,A h r x∧(∀(k:Nat) (h':AH) (κ:Ka),bM z v (.int k (i:Int)) h' κ=κ P h')∧ ∀h',Old h h'→ ∀κ:Ka,aF z P h' κ=κ (.agg r) h':=by
 obtain ⟨rows,w,e,r⟩:=l;have hi:i<rows.length:=by rw [e];exact (Bc.1 hx).1
 obtain ⟨q,hq⟩: ∃q,rows[i]? =some q:=⟨_,Bd hi⟩;obtain ⟨hr,⟨rfl,_⟩|⟨b,cap,e',junk,y,hs,o⟩⟩:=w
 ·simp at hq
 ·have el:=o.el hr hq
  refine ⟨q,.pto b (i*z),r i q x hq hx,el.idx,fun h' oo κ=>?_⟩;have o':OwB h' z v rows b cap e' junk y:=⟨o.val,by rw [oo.2 b o.lt];exact o.blk,o.fit,o.len⟩;exact (o'.el hr hq).ldG κ
theorem LS.len {α:Type} {A:AH→List AV→α→Prop} {z:Nat} {v:AV} {L:List α} (l:LS A h z v L) (h':AH) (κ:Ka):bG v h' κ=κ (N64 L.length) h':=by
 obtain ⟨rows,w,e,r⟩:=l;rw [w.bG,e];rfl
theorem yj {lv lw:AV} {p:Int} {L:List (List Nat)} (s1:cW h lv (eS L)) (s2:cW h lw (eS L)) (hb:L.length≤1000) (f:Nat) (hf:1100≤f):aL (fun r h'=>r= .bool true∧Old h h') ((rl (CL mx) f).run 30 [.agg [lv,.int 9223372036854775807 p],.agg [lw,.int 9223372036854775807 p]] h):=by
 obtain ⟨F,rfl⟩: ∃F,f=F+1:=⟨f-1,by omega⟩;refine aL.runs (n:=F) (ak0 mx _ _ _ _ _) ?_;obtain ⟨H1,hH1⟩: ∃H1,H1=h++[some (.cells [lv,.int 9223372036854775807 p] (47+1))]:=⟨_,rfl⟩;obtain ⟨H2,hH2⟩: ∃H2,H2=H1++[some (.cells [lw,.int 9223372036854775807 p] (47+1))]:=⟨_,rfl⟩;have l1:H1.length=h.length+1:=by rw [hH1];simp
 have l2:H2.length=h.length+2:=by rw [hH2,A7,l1];rfl
 have o2:Old h H2:=by rw [hH2,hH1];exact (Old.rfl.app _).app _
 have b1:ab H2 h.length=some (.cells [lv,.int 9223372036854775807 p] (47+1)):=by rw [hH2,ak (by omega),hH1,aD]
 have b2:ab H2 H1.length=some (.cells [lw,.int 9223372036854775807 p] (47+1)):=by rw [hH2,aD]
 obtain ⟨r,h3,e,rfl,rfl⟩:=aL.call (C:=CL mx) (ahU (mx:=mx) (s1.up o2) (s2.up o2) (by omega) F (by omega));rw [decide_eq_true rfl] at e;have c10:=ldc b1 (j:=0) rfl;have c11:=ldc b1 (j:=1) rfl;have c20:=ldc b2 (j:=0) rfl;have c21:=ldc b2 (j:=1) rfl;have gp: ∀x:Int,decide (x=x)=true:=fun x=>decide_eq_true rfl
 simp only [Nat.reduceAdd] at hH1 hH2;rw [ajB];simp only [sm2,←hH1,←hH2,c10,c20,e,c11,c21,gp];rw [iQ,ap9];exact Ends.mk ⟨rfl,o2⟩
theorem ahm {h0:AH} {b1 b2:Nat} {q1 q2:AV} {L:List DQ} (l1:LS QS h0 4 q1 L) (l2:LS QS h0 4 q2 L) (hq: ∀h',Old h0 h'→ ∀κ:Ka,ao (.pto b2 2) h' κ=κ q2 h') (hL: ∀x∈L,QOk x) (hl:L.length≤10000) (v0 v1 U T v9 v10 v11 J v67 u B G H I t g:AV):
 ∀(k i f:Nat) (hc:AH) (v5 K v7 D E:AV),i+k=L.length→k+1300≤f→Old h0 hc→
  (∀h' v5 K v7 D E,Old h0 h'→Q (κx (.exit 0) ⟨bL v0 v1 (.pto b1 0) (.pto b2 0) U v5 K v7 T v9 v10 v11 J q1 (N64 L.length) (N64 L.length) D E v67 u B G H I t g,h'⟩))→
  Q (kcR κn κx ((rl (CL mx) f).lp (acr mx) ⟨bL v0 v1 (.pto b1 0) (.pto b2 0) U v5 K v7 T v9 v10 v11 J q1 (N64 L.length) (N64 i) D E v67 u B G H I t g,hc⟩)):=by
 intro k
 induction k with
 |zero=>
  intro i f hc v5 K v7 D E hi hf o kk_;obtain ⟨f,rfl⟩:=fuel hf;obtain rfl:i=L.length:=by omega
  refine de (kW mx _) ?_;refine wEq (xR ..) ?_;simp only [sm2,n64,Df];exact kk_ hc _ _ _ _ _ o
 |succ k ih=>
  intro i f hc v5 K v7 D E hi hf o kk_;obtain ⟨F,rfl⟩: ∃F,f=F+1:=⟨f-1,by omega⟩;obtain ⟨x,hx⟩: ∃x,L[i]? =some x:=⟨_,Bd (by omega)⟩;have ok:=hL x (Bg hx);have g1:decide ((i:Int)<(L.length:Int))=true:=by rw [decide_eq_true_iff];omega
  have w1:aQ 9223372036854775807 ((i:Int)+1)=((i+1:Nat):Int):=wI (by simp) (by omega);obtain ⟨r1,P1,a1,ix1,lg1⟩:=l1.el hx;obtain ⟨r2,P2,a2,ix2,lg2⟩:=l2.el hx;obtain ⟨lv,rfl,s1⟩:=a1;obtain ⟨lw,rfl,s2⟩:=a2;obtain ⟨H1,hH1⟩: ∃H1,H1=hc++[some (.cells [lv,.int 9223372036854775807 x.name.ptr,.int 65535 (x.ty:Int),.int 65535 (x.cls:Int)] (49+1))]:=⟨_,rfl⟩;obtain ⟨H2,hH2⟩: ∃H2,H2=H1++[some (.cells [lw,.int 9223372036854775807 x.name.ptr,.int 65535 (x.ty:Int),.int 65535 (x.cls:Int)] (49+1))]:=⟨_,rfl⟩;have n1:H1.length=hc.length+1:=by rw [hH1];simp
  have n2:H2.length=hc.length+2:=by rw [hH2,A7,n1];rfl
  have o1:Old h0 H1:=by rw [hH1];exact o.app _
  have o2:Old h0 H2:=by rw [hH2];exact o1.app _
  have t1:ab H2 hc.length=some (.cells [lv,.int 9223372036854775807 x.name.ptr,.int 65535 (x.ty:Int),.int 65535 (x.cls:Int)] (49+1)):=by rw [hH2,ak (by omega),hH1,aD]
  have t2:ab H2 H1.length=some (.cells [lw,.int 9223372036854775807 x.name.ptr,.int 65535 (x.ty:Int),.int 65535 (x.cls:Int)] (49+1)):=by rw [hH2,aD]
  have z1: ∀κ:Ka,ay 4 (.pto hc.length 0) (.agg [lv,.int 9223372036854775807 x.name.ptr,.int 65535 (x.ty:Int),.int 65535 (x.cls:Int)]) (hc++[some (.cells [.aa,.int 9223372036854775807 0,.int 65535 0,.int 65535 0] (49+1))]) κ=κ (.tup []) H1:=fun κ=>by rw [hH1];exact bD rfl rfl (by
   show and lv.plain (and true (and true (and true true)))=true;rw [s1.plain];rfl)
  have z2: ∀κ:Ka,ay 4 (.pto H1.length 0) (.agg [lw,.int 9223372036854775807 x.name.ptr,.int 65535 (x.ty:Int),.int 65535 (x.cls:Int)]) (H1++[some (.cells [.aa,.int 9223372036854775807 0,.int 65535 0,.int 65535 0] (49+1))]) κ=κ (.tup []) H2:=fun κ=>by rw [hH2];exact bD rfl rfl (by
   show and lw.plain (and true (and true (and true true)))=true;rw [s2.plain];rfl)
  simp only [Nat.reduceAdd] at z1 z2;have lG1:=lg1 hc o;have lG2:=lg2 H1 o1;have q1':=hq H1 o1;have g21:=asR t1;have g22:=asR t2;obtain ⟨rr,h3,ec,rfl,o3⟩:=aL.call (C:=CL mx) (yj (mx:=mx) (p:=x.name.ptr) (s1.up o2) (s2.up o2) ok.name.len F (by omega));have u1:ab h3 hc.length=_:=(o3.2 _ (by omega)).trans t1;have u2:ab h3 H1.length=_:=(o3.2 _ (by omega)).trans t2;have gp: ∀y:Int,decide (y=y)=true:=fun y=>decide_eq_true rfl
  have gn: ∀y:Int,decide (¬y=y)=false:=fun y=>by simp
  have c12:=ldc u1 (j:=2) rfl;have c22:=ldc u2 (j:=2) rfl;have c13:=ldc u1 (j:=3) rfl;have c23:=ldc u2 (j:=3) rfl;refine de (kW mx _) ?_;refine wEq (xR ..) ?_;simp only [sm2,n64,g1,ix1,lG1,z1,q1',ix2,lG2,z2,g21,g22,ec,c12,c22,c13,c23,gp,gn,w1];exact ih (i+1) F h3 _ _ _ _ _ (by omega) (by omega) (o2.trans o3) kk_
theorem ahi {h0:AH} {b1 b2:Nat} {q1 q2:AV} {L:List DR} {kk:Nat} (hkk:kk<3) (l1:LS RS' h0 6 q1 L) (l2:LS RS' h0 6 q2 L) (hq: ∀h',Old h0 h'→ ∀κ:Ka,ao (.pto b2 (3+kk*1)) h' κ=κ q2 h') (hL: ∀x∈L,abX x) (hl:L.length≤10000) (v0 v1 U v5 K v7 J N O R D E v67 u B:AV):
 ∀(k i f:Nat) (hc:AH) (v9 v10 v11 t g:AV),i+k=L.length→k+1300≤f→Old h0 hc→
  (∀h' v9 v10 v11 t g,Old h0 h'→Q (κx (.exit 4) ⟨bL v0 v1 (.pto b1 0) (.pto b2 0) U v5 K v7 (N64 kk) v9 v10 v11 J N O R D E v67 u B q1 (N64 L.length) (N64 L.length) t g,h'⟩))→
  Q (kcR κn κx ((rl (CL mx) f).lp (zB mx) ⟨bL v0 v1 (.pto b1 0) (.pto b2 0) U v5 K v7 (N64 kk) v9 v10 v11 J N O R D E v67 u B q1 (N64 L.length) (N64 i) t g,hc⟩)):=by
 intro k
 induction k with
 |zero=>
  intro i f hc v9 v10 v11 t g hi hf o kk_;obtain ⟨f,rfl⟩:=fuel hf;obtain rfl:i=L.length:=by omega
  refine de (kW mx _) ?_;refine wEq (vN ..) ?_;simp only [sm2,n64,Df];exact kk_ hc _ _ _ _ _ o
 |succ k ih=>
  intro i f hc v9 v10 v11 t g hi hf o kk_;obtain ⟨F,rfl⟩: ∃F,f=F+1:=⟨f-1,by omega⟩;obtain ⟨x,hx⟩: ∃x,L[i]? =some x:=⟨_,Bd (by omega)⟩;have ok:=hL x (Bg hx);have g1:decide ((i:Int)<(L.length:Int))=true:=by rw [decide_eq_true_iff];omega
  have w1:aQ 9223372036854775807 ((i:Int)+1)=((i+1:Nat):Int):=wI (by simp) (by omega);obtain ⟨r1,P1,a1,ix1,lg1⟩:=l1.el hx;obtain ⟨r2,P2,a2,ix2,lg2⟩:=l2.el hx;obtain ⟨lv,dv,rfl,s1,d1⟩:=a1;obtain ⟨lw,dw,rfl,s2,d2⟩:=a2;obtain ⟨H1,hH1⟩: ∃H1,H1=hc++[some (.cells [lv,.int 9223372036854775807 x.name.ptr,.int 65535 (x.ty:Int),.int 65535 (x.cls:Int),.int 4294967295 (x.ttl:Int),dv] (52+1))]:=⟨_,rfl⟩;obtain ⟨H2,hH2⟩: ∃H2,H2=H1++[some (.cells [lw,.int 9223372036854775807 x.name.ptr,.int 65535 (x.ty:Int),.int 65535 (x.cls:Int),.int 4294967295 (x.ttl:Int),dw] (52+1))]:=⟨_,rfl⟩;have n1:H1.length=hc.length+1:=by rw [hH1];simp
  have n2:H2.length=hc.length+2:=by rw [hH2,A7,n1];rfl
  have o1:Old h0 H1:=by rw [hH1];exact o.app _
  have o2:Old h0 H2:=by rw [hH2];exact o1.app _
  have t1:ab H2 hc.length=some (.cells [lv,.int 9223372036854775807 x.name.ptr,.int 65535 (x.ty:Int),.int 65535 (x.cls:Int),.int 4294967295 (x.ttl:Int),dv] (52+1)):=by rw [hH2,ak (by omega),hH1,aD]
  have t2:ab H2 H1.length=some (.cells [lw,.int 9223372036854775807 x.name.ptr,.int 65535 (x.ty:Int),.int 65535 (x.cls:Int),.int 4294967295 (x.ttl:Int),dw] (52+1)):=by rw [hH2,aD]
  have z1: ∀κ:Ka,ay 6 (.pto hc.length 0) (.agg [lv,.int 9223372036854775807 x.name.ptr,.int 65535 (x.ty:Int),.int 65535 (x.cls:Int),.int 4294967295 (x.ttl:Int),dv]) (hc++[some (.cells [.aa,.int 9223372036854775807 0,.int 65535 0,.int 65535 0,.int 4294967295 0,.aa] (52+1))]) κ=κ (.tup []) H1:=fun κ=>by rw [hH1];exact bD rfl rfl (by
   show and lv.plain (and true (and true (and true (and true (and dv.plain true)))))=true;rw [s1.plain,d1.plain];rfl)
  have z2: ∀κ:Ka,ay 6 (.pto H1.length 0) (.agg [lw,.int 9223372036854775807 x.name.ptr,.int 65535 (x.ty:Int),.int 65535 (x.cls:Int),.int 4294967295 (x.ttl:Int),dw]) (H1++[some (.cells [.aa,.int 9223372036854775807 0,.int 65535 0,.int 65535 0,.int 4294967295 0,.aa] (52+1))]) κ=κ (.tup []) H2:=fun κ=>by rw [hH2];exact bD rfl rfl (by
   show and lw.plain (and true (and true (and true (and true (and dw.plain true)))))=true;rw [s2.plain,d2.plain];rfl)
  simp only [Nat.reduceAdd] at z1 z2;have lG1:=lg1 hc o;have lG2:=lg2 H1 o1;have q1':=hq H1 o1;have g21:=asR t1;have g22:=asR t2;obtain ⟨rr,h3,ec,rfl,o3⟩:=aL.call (C:=CL mx) (yj (mx:=mx) (p:=x.name.ptr) (s1.up o2) (s2.up o2) ok.name.len F (by omega));have u1:ab h3 hc.length=_:=(o3.2 _ (by omega)).trans t1;have u2:ab h3 H1.length=_:=(o3.2 _ (by omega)).trans t2;have gp: ∀y:Int,decide (y=y)=true:=fun y=>decide_eq_true rfl
  have gn: ∀y:Int,decide (¬y=y)=false:=fun y=>by simp
  have c12:=ldc u1 (j:=2) rfl;have c22:=ldc u2 (j:=2) rfl;have c13:=ldc u1 (j:=3) rfl;have c23:=ldc u2 (j:=3) rfl;have c14:=ldc u1 (j:=4) rfl;have c24:=ldc u2 (j:=4) rfl;have c15:=ldc u1 (j:=5) rfl;have c25:=ldc u2 (j:=5) rfl;have ix: ∀(X:AH) (κ:Ka),kn 3 1 (.pto b2 3) (.int 9223372036854775807 (kk:Int)) X κ=κ (.pto b2 (3+kk*1)) X:=fun X κ=>by
   rw [rR,decide_eq_true hkk];rfl
  have bd:=ok.dat;have o23:=o2.trans o3;have b1':=fun κ=>zk (d1.up o23) bd κ
  have b2':=fun κ=>zk (d2.up o23) bd κ
  have ns:neS x.dat x.dat=false:=by unfold neS;rw [nM];rfl
  refine de (kW mx _) ?_;refine wEq (vN ..) ?_;simp only [sm2,n64,g1,ix1,lG1,z1,q1',ix2,lG2,z2,g21,g22,ec,c12,c22,c13,c23,c14,c24,c15,c25,ix,b1',b2',wZ,ns,gp,gn,w1];exact ih (i+1) F h3 _ _ _ _ _ (by omega) (by omega) (o2.trans o3) kk_
theorem po {h0 hc:AH} {b1 b2 y kk:Nat} {q1 q2:AV} {L:List DR} {c1 c2:List AV} (hkk:kk<3) (e1:ab h0 b1=some (.cells c1 y)) (e2:ab h0 b2=some (.cells c2 y)) (i1:c1[3+kk]? =some q1) (i2:c2[3+kk]? =some q2) (l1:LS RS' h0 6 q1 L) (l2:LS RS' h0 6 q2 L) (hL: ∀x∈L,abX x) (hl:L.length≤10000) (o:Old h0 hc)
 (v0 v1 U v5 K v7 T v9 v10 v11 J N O R D E u B G H I t g:AV) (f:Nat) (hf:L.length+1400≤f)
 (k: ∀h' T v9 v10 v11 u B G H I t g,Old h0 h'→Q (kcR κn κx ((rl (CL mx) f).lp (zO mx) ⟨bL v0 v1 (.pto b1 0) (.pto b2 0) U v5 K v7 T v9 v10 v11 J N O R D E (N64 (kk+1)) u B G H I t g,h'⟩))):
 Q (kcR κn κx ((rl (CL mx) (f+1)).lp (zO mx) ⟨bL v0 v1 (.pto b1 0) (.pto b2 0) U v5 K v7 T v9 v10 v11 J N O R D E (N64 kk) u B G H I t g,hc⟩)):=by
 have g1:decide ((kk:Int)<3)=true:=by rw [decide_eq_true_iff];omega
 have w1:aQ 9223372036854775807 ((kk:Int)+1)=((kk+1:Nat):Int):=wI (by simp) (by omega);have lt1:=aJ e1;have lt2:=aJ e2;have i1':c1[3+kk*1]? =some q1:=by rw [BW];exact i1
 have i2':c2[3+kk*1]? =some q2:=by rw [BW];exact i2
 have hq1: ∀h',Old h0 h'→ ∀κ:Ka,ao (.pto b1 (3+kk*1)) h' κ=κ q1 h':=fun h' o κ=>ldc ((o.2 _ lt1).trans e1) i1' κ
 have hq2: ∀h',Old h0 h'→ ∀κ:Ka,ao (.pto b2 (3+kk*1)) h' κ=κ q2 h':=fun h' o κ=>ldc ((o.2 _ lt2).trans e2) i2' κ
 have ix1: ∀(X:AH) (κ:Ka),kn 3 1 (.pto b1 3) (.int 9223372036854775807 (kk:Int)) X κ=κ (.pto b1 (3+kk*1)) X:=fun X κ=>by
  rw [rR,decide_eq_true hkk];rfl
 have ix2: ∀(X:AH) (κ:Ka),kn 3 1 (.pto b2 3) (.int 9223372036854775807 (kk:Int)) X κ=κ (.pto b2 (3+kk*1)) X:=fun X κ=>by
  rw [rR,decide_eq_true hkk];rfl
 have h1c:=hq1 hc o;have h2c:=hq2 hc o;have n1:=l1.len;have n2:=l2.len;have gn: ∀y:Int,decide (¬y=y)=false:=fun y=>by simp
 refine de (kW mx _) ?_;refine wEq (wU ..) ?_;simp only [sm2,n64,g1];refine wEq (ajr ..) ?_;refine wEq (ag3 ..) ?_;refine wEq (aco ..) ?_;simp only [sm2,n64,ix1,h1c,n1,ix2,h2c,n2,gn];refine wEq (acI ..) ?_;simp only [aen];refine wEq (adm ..) ?_;simp only [sm2,n64,ix1,h1c,n1];refine ahi (mx:=mx) hkk l1 l2 hq2 hL hl _ _ _ _ _ _ _ _ _ _ _ _ _ _ _ L.length 0 f hc _ _ _ _ _ (by omega) (by omega) o (fun h' v9 v10 v11 t g o'=>?_);simp only [mW,decide_true,bqT];refine wEq (ain ..) ?_;simp only [sm2,n64,w1];exact k h' _ v9 v10 v11 _ _ _ _ _ t g o'
theorem ye {cs1 cs2:List AV} {M:rZ} (s1:lA h cs1 M) (s2:lA h cs2 M) (ok:MOk M) (f:Nat) (hf:5000≤f):aL (fun r h'=>r= .bool true∧Old h h') ((rl (CL mx) f).run 10 [.agg cs1,.agg cs2] h):=by
 obtain ⟨F,rfl⟩: ∃F,f=F+1+1+1+1+1:=⟨f-5,by omega⟩;refine aL.runs (n:=F+1+1+1+1) (aom mx _ _ _ _ _) ?_;obtain ⟨q,v0,v1,v2,rfl,a0,a1,a2,a3⟩:=s1;obtain ⟨q',w0,w1,w2,rfl,c0,c1,c2,c3⟩:=s2;have len:=ok.len;obtain ⟨H1,hH1⟩: ∃H1,H1=h++[some (.cells [.int 65535 (M.id:Int),.int 65535 (M.flags:Int),q,v0,v1,v2] (29+1))]:=⟨_,rfl⟩;obtain ⟨H2,hH2⟩: ∃H2,H2=H1++[some (.cells [.int 65535 (M.id:Int),.int 65535 (M.flags:Int),q',w0,w1,w2] (29+1))]:=⟨_,rfl⟩;have l1:H1.length=h.length+1:=by rw [hH1];simp
 have l2:H2.length=h.length+2:=by rw [hH2,A7,l1];rfl
 have o2:Old h H2:=by rw [hH2,hH1];exact (Old.rfl.app _).app _
 have b1:ab H2 h.length=some (.cells [.int 65535 (M.id:Int),.int 65535 (M.flags:Int),q,v0,v1,v2] (29+1)):=by rw [hH2,ak (by omega),hH1,aD]
 have b2:ab H2 H1.length=some (.cells [.int 65535 (M.id:Int),.int 65535 (M.flags:Int),q',w0,w1,w2] (29+1)):=by rw [hH2,aD]
 have c10:=ldc b1 (j:=0) rfl;have c11:=ldc b1 (j:=1) rfl;have c12:=ldc b1 (j:=2) rfl;have c20:=ldc b2 (j:=0) rfl;have c21:=ldc b2 (j:=1) rfl;have c22:=ldc b2 (j:=2) rfl;have gn: ∀y:Int,decide (¬y=y)=false:=fun y=>by simp
 have n1:=a0.len;have n2:=c0.len;simp only [Nat.reduceAdd] at hH1 hH2;have A0:=a0.upq o2;have C0':=c0.upq o2;have hq: ∀h',Old H2 h'→ ∀κ:Ka,ao (.pto H1.length 2) h' κ=κ q' h':=fun h' o κ=>ldc ((o.2 _ (by omega)).trans b2) rfl κ
 rw [ag0];simp only [sm2,←hH1,←hH2,c10,c20,gn,c11,c21,c12,n1,c22,n2,n64];refine wEq (ajp ..) ?_;simp only [sm2,c12,n1,n64];refine ahm (mx:=mx) (h0:=H2) A0 C0' hq ok.qs (by omega) _ _ _ _ _ _ _ _ _ _ _ _ _ _ _ _ M.qs.length 0 (F+1+1+1+1) H2 _ _ _ _ _ (by omega) (by omega) Old.rfl (fun h3 v5 K v7 D E o3=>?_);simp only [mW,decide_true,bqT];refine wEq (aiJ ..) ?_;refine wEq (agZ ..) ?_;refine po (mx:=mx) (kk:=0) (by decide) b1 b2 rfl rfl (a1.upr o2) (c1.upr o2) ok.r0 (by omega) o3 _ _ _ _ _ _ _ _ _ _ _ _ _ _ _ _ _ _ _ _ _ _ _ (F+1+1+1) (by omega) (fun h4 T v9 v10 v11 u B G H I t g o4=>?_);refine po (mx:=mx) (kk:=1) (by decide) b1 b2 rfl rfl (a2.upr o2) (c2.upr o2) ok.r1 (by omega) o4 _ _ _ _ _ _ _ _ _ _ _ _ _ _ _ _ _ _ _ _ _ _ _ (F+1+1) (by omega) (fun h5 T v9 v10 v11 u B G H I t g o5=>?_);refine po (mx:=mx) (kk:=2) (by decide) b1 b2 rfl rfl (a3.upr o2) (c3.upr o2) ok.r2 (by omega) o5 _ _ _ _ _ _ _ _ _ _ _ _ _ _ _ _ _ _ _ _ _ _ _ (F+1) (by omega) (fun h6 T v9 v10 v11 u B G H I t g o6=>?_);have g3:decide (((2+1:Nat):Int)<3)=false:=by decide
 refine de (kW mx _) ?_;refine wEq (wU ..) ?_;simp only [sm2,n64,g3,mW];refine wEq (agL ..) ?_;rw [iQ,aoX];exact Ends.mk ⟨rfl,o2.trans o6⟩
end
noncomputable section
def pA (v0 v2 j o v5 p u v11 g:AV):Tm:=(.nd 5 (.nd 3 (.nd 2 (.lf 0 v0) (.lf 2 v2)) (.nd 4 (.lf 3 j) (.lf 4 o))) (.nd 8 (.nd 6 (.lf 5 v5) (.lf 6 p)) (.nd 11 (.lf 8 u) (.nd 25 (.lf 11 v11) (.lf 25 g)))))
def ac1 (mx:Int):K:=kAt [] (kOf (CL mx) 3)
section
set_option maxRecDepth 100000
variable (mx:Int) (run:Run) (lp:Lp) (κn:Kt) (κx:Ex→Kt) (h:AH) (v0 v2 j o v5 p u v11 g:AV)
theorem ahB:kc (CL mx) run lp (ac1 mx) ⟨pA v0 v2 j o v5 p u v11 g,h⟩ κn κx=aP (fun a0 h=>oE a0 h (fun a1 h=>bJ a1 (κx .ret ⟨pA v0 (.bool false) j o v5 p a1 v11 g,h⟩) (bG v0 h (fun a2 h=>cmp igt a2 (.int 9223372036854775807 400) h (fun a3 h=>bJ a3 (κx .ret ⟨pA v0 (.bool true) j o v5 p a1 a3 g,h⟩) (aP (fun a4 h=>aP (fun a5 h=>aP (fun a6 h=>fu 0 a6 h (fun a7 h=>fu 1 a6 h (fun a8 h=>cU h (.cells [.int 65535 0,.int 65535 0,.aa,.aa,.aa,.aa] 30) (fun a9 h=>cU h (.cells [.int 9223372036854775807 0,.int 9223372036854775807 0] 33) (fun a10 h=>ay 6 a9 a7 h (fun a11 h=>ay 2 a10 a8 h (fun a12 h=>aP (fun a13 h=>fu 0 a13 h (fun a14 h=>fu 1 a13 h (fun a15 h=>cU h (.cells [.int 65535 0,.int 65535 0,.aa,.aa,.aa,.aa] 30) (fun a16 h=>ay 6 a16 a14 h (fun a17 h=>oE a15 h (fun a18 h=>bJ a18 (aj 0 a10 h (fun a19 h=>ao a19 h (fun a20 h=>cmp ine a20 (.int 9223372036854775807 0) h (fun a21 h=>aC a21 true (fun κ=>aF 6 a9 h κ) h (fun a22 h=>aC a21 true (fun κ=>dX (placeOf (CL mx) [(0,24),(1,24),(2,25),(3,27)]) [.int 65535 0,.int 65535 0,.aa,.aa,.aa,.aa] [] h κ) h (fun a23 h=>aC a21 true (fun κ=>aP κ (aH (CL mx) run 10 [a22,a23] h)) h (fun a24 h=>fw a21 a24 (.bool false) h (fun a25 h=>κx .ret ⟨pA v0 a25 a9 a10 a16 a15 a1 a3 a18,h⟩)))))))) (aj 0 a10 h (fun a19 h=>ao a19 h (fun a20 h=>cmp cD a20 (.int 9223372036854775807 0) h (fun a21 h=>aC a21 true (fun κ=>aF 6 a9 h κ) h (fun a22 h=>aC a21 true (fun κ=>aF 6 a16 h κ) h (fun a23 h=>aC a21 true (fun κ=>aP κ (aH (CL mx) run 10 [a22,a23] h)) h (fun a24 h=>fw a21 a24 (.bool false) h (fun a25 h=>κx .ret ⟨pA v0 a25 a9 a10 a16 a15 a1 a3 a18,h⟩)))))))))))))) (aH (CL mx) run 9 [v0] h)))))))) (aH (CL mx) run 7 [a4,v0,a5] h)) (aH (CL mx) run 8 [] h)) (aH (CL mx) run 6 [] h))))))) (aH (CL mx) run 5 [] h):=by kernel_rfl
theorem vu:kcE (CL mx) [.tmp 2] ⟨pA v0 v2 j o v5 p u v11 g,h⟩=some (.vh v2 h):=(bW _ _ _).trans (by kernel_rfl)
theorem aqo:dz (CL mx) 3=some ⟨ac1 mx,[0,2,3,4,5,6,8,11,25],42,[.tmp 2]⟩:=by kernel_rfl
end
theorem aoZ (mx:Int) (run:Run) (lp:Lp) (x0:AV) (h:AH):dk (CL mx) run lp 3 [x0] h=vhO (kc (CL mx) run lp (ac1 mx) ⟨pA x0 .bot .bot .bot .bot .bot .bot .bot .bot,h⟩ (kcE (CL mx) [.tmp 2]) (kcQ (CL mx) [.tmp 2])):=(bV (by kernel_rfl) (aqo mx) (by kernel_rfl)).trans (by kernel_rfl)
end
section
variable {mx:Int} {h:AH}
theorem lA.six {cs:List AV} {m:rZ} (s:lA h cs m):cs.length=6∧aO cs=true:=by
 obtain ⟨q,v0,v1,v2,rfl,⟨_,a,_⟩,⟨_,b,_⟩,⟨_,c,_⟩,⟨_,d,_⟩⟩:=s;refine ⟨rfl,?_⟩;show and true (and true (and q.plain (and v0.plain (and v1.plain (and v2.plain true)))))=true;rw [a.plain,b.plain,c.plain,d.plain];rfl
theorem agV {v0:AV} {b:List Nat} (hp:cO v0 (aI b)) (hd:By b):aL (fun r _=>r= .bool true) ((rl (CL mx) 500001).run 3 [v0] []):=by
 refine aL.runs (n:=500000) (aoZ mx _ _ _ _) ?_;have hlen: ∀(h':AH) (κ:Ka),bG v0 h' κ=κ (N64 b.length) h':=fun h' κ=>by have:=hp.len h' κ;rwa [ba] at this
 have hm:=fun h=>ac4 (C:=CL mx) (run:=(rl (CL mx) 500000).run) (h:=h) (f:=5) (args:=[]) (v:=.bool true) (by kernel_rfl) (by kernel_rfl) (by kernel_rfl)
 refine wEq (ahB ..) ?_
 by_cases hb:b.length≤400
 ·have g1':decide (400<(b.length:Int))=false:=by rw [decide_eq_false_iff_not];omega
  simp only [sm2,av1,hm,hlen,n64,g1'];refine cy (aiB (mx:=mx) 499999).call ?_;rintro r h1 ⟨rfl,rfl⟩;simp only [lC,anQ (mx:=mx) 499999];have hv:v0.nb=true∧v0.cells=[v0]:=⟨(hp.at []).nb,(hp.at []).cells⟩;refine cy (acT (mx:=mx) (h:=HN) (bv:=v0) (data:=b) axQ (.inl rfl) (by omega) hd (fun n _=>hp.lt n) hv (fun h' _ _=>.inl hp) 500000 (by omega)).call ?_;rintro r h1 ⟨fx,it,hr⟩;obtain ⟨A,c1,c2,er,A6,Ap,hA⟩: ∃(A:List AV) (c1 c2:Nat),r= .tup [.agg A,.agg [N64 c1,N64 c2]]∧A.length=6∧aO A=true∧match iS b with
   |none=>c1≠0∧A=Z6
   |some M=>c1=0∧lA h1 A M:=by
   cases e:iS b with
   |none=>
    rw [e] at hr;obtain ⟨c,a,n,er⟩:=hr;exact ⟨Z6,c,a,er,rfl,rfl,n,rfl⟩
   |some M=>
    rw [e] at hr;obtain ⟨cs,er,ma⟩:=hr;have ms:=lA.of ma;exact ⟨cs,0,0,er,ms.six.1,ms.six.2,rfl,ms⟩
  subst er;obtain ⟨H2,hH2⟩: ∃H2,H2=h1++[some (.cells A (29+1))]:=⟨_,rfl⟩;obtain ⟨H3,hH3⟩: ∃H3,H3=h1++[some (.cells [.int 65535 0,.int 65535 0,.aa,.aa,.aa,.aa] (29+1))]++[some (.cells [.int 9223372036854775807 0,.int 9223372036854775807 0] (32+1))]:=⟨_,rfl⟩;obtain ⟨H4,hH4⟩: ∃H4,H4=H3.set h1.length (some (.cells A (29+1))):=⟨_,rfl⟩;obtain ⟨H5,hH5⟩: ∃H5,H5=H4.set (h1.length+1) (some (.cells [N64 c1,N64 c2] (32+1))):=⟨_,rfl⟩;have l0:(h1++[some (Blk.cells [.int 65535 0,.int 65535 0,.aa,.aa,.aa,.aa] (29+1))]).length=h1.length+1:=by simp
  have l3:H3.length=h1.length+2:=by rw [hH3];simp
  have l4:H4.length=h1.length+2:=by rw [hH4,Bb,l3]
  have l5:H5.length=h1.length+2:=by rw [hH5,Bb,l4]
  have m3:ab H3 h1.length=some (.cells [.int 65535 0,.int 65535 0,.aa,.aa,.aa,.aa] (29+1)):=by rw [hH3,ak (by omega),aD]
  have f3:ab H3 (h1.length+1)=some (.cells [.int 9223372036854775807 0,.int 9223372036854775807 0] (32+1)):=by
   have:=aD (h1++[some (Blk.cells [.int 65535 0,.int 65535 0,.aa,.aa,.aa,.aa] (29+1))]) (some (Blk.cells [.int 9223372036854775807 0,.int 9223372036854775807 0] (32+1)))
   rw [l0,←hH3] at this;exact this
  have f4:ab H4 (h1.length+1)=_:=(by rw [hH4,ae (by omega)]:ab H4 (h1.length+1)=ab H3 (h1.length+1)).trans f3;have m4:ab H4 h1.length=some (.cells A (29+1)):=by rw [hH4];exact aq (by omega) _
  have st3: ∀κ:Ka,ay 6 (.pto h1.length 0) (.agg A) H3 κ=κ (.tup []) H4:=fun κ=>by rw [hH4];exact bB (n:=6) m3 rfl A6 Ap κ
  have st4: ∀κ:Ka,ay 2 (.pto (h1.length+1) 0) (.agg [N64 c1,N64 c2]) H4 κ=κ (.tup []) H5:=fun κ=>by rw [hH5];exact bB (n:=2) (q:=[N64 c1,N64 c2]) f4 rfl rfl rfl κ
  have m5:ab H5 h1.length=some (.cells A (29+1)):=by rw [hH5,ae (by omega)];exact m4
  have f5:ab H5 (h1.length+1)=some (.cells [N64 c1,N64 c2] (32+1)):=by rw [hH5];exact aq (by omega) _
  have o5:Old h1 H5:=⟨by omega,fun i hi=>by rw [hH5,ae (by omega),hH4,ae (by omega),hH3,ak (by omega),ak hi]⟩;simp only [Nat.reduceAdd] at l0 hH3;simp only [jH,eB,sj,B8,BA,l0,←hH3];refine wEq (st3 _) ?_;refine wEq (st4 _) ?_;refine cy (agM (mx:=mx) hp hd (by omega) 500000 (by omega)).call ?_;rintro r h2 ⟨o2,hr2⟩;obtain ⟨B,ok,er2,B6,Bp,hB⟩: ∃(B:List AV) (ok:Bool),r= .tup [.agg B,.bool ok]∧B.length=6∧aO B=true∧match iS b with
   |none=>ok=false
   |some M=>ok=true∧lA h2 B M:=by
   cases e:iS b with
   |none=>
    rw [e] at hr2;obtain ⟨cs,er,c6,cp⟩:=hr2;exact ⟨cs,false,er,c6,cp,rfl⟩
   |some M=>
    rw [e] at hr2;obtain ⟨cs,er,ma⟩:=hr2;have ms:=lA.ofl ma;exact ⟨cs,true,er,ms.six.1,ms.six.2,rfl,ms⟩
  subst er2;obtain ⟨H7,hH7⟩: ∃H7,H7=h2++[some (.cells B (29+1))]:=⟨_,rfl⟩;have st7: ∀κ:Ka,ay 6 (.pto h2.length 0) (.agg B) (h2++[some (.cells [.int 65535 0,.int 65535 0,.aa,.aa,.aa,.aa] (29+1))]) κ=κ (.tup []) H7:=fun κ=>by rw [hH7];exact bD rfl B6 Bp
  have o7:Old h2 H7:=by rw [hH7];exact Old.rfl.app _
  have o57:Old H5 H7:=o2.trans o7;have b7:ab H7 h2.length=some (.cells B (29+1)):=by rw [hH7];exact aD _ _
  have m7:ab H7 h1.length=_:=(o57.2 _ (by omega)).trans m5;have f7:ab H7 (h1.length+1)=_:=(o57.2 _ (by omega)).trans f5;have ldf: ∀κ:Ka,ao (.pto (h1.length+1) 0) H7 κ=κ (N64 c1) H7:=ldc f7 rfl;have ldm: ∀κ:Ka,aF 6 (.pto h1.length 0) H7 κ=κ (.agg A) H7:=fun κ=>bg (n:=6) m7 A6 κ
  have ldb: ∀κ:Ka,aF 6 (.pto h2.length 0) H7 κ=κ (.agg B) H7:=fun κ=>bg (n:=6) b7 B6 κ
  have bz: ∀(X:AH) (κ:Ka),dX (placeOf (CL mx) [(0,24),(1,24),(2,25),(3,27)]) [.int 65535 0,.int 65535 0,.aa,.aa,.aa,.aa] [] X κ=κ (.agg Z6) X:=fun X κ=>kK _ Z6 _ _
  simp only [Nat.reduceAdd] at st7;simp only [jH,eB,sj,B8,BA];refine wEq (st7 _) ?_
  cases e:iS b with
  |none=>
   rw [e] at hA hB;obtain ⟨hc,rfl⟩:=hA;subst hB;have g2:decide (¬(c1:Int)=0)=true:=by rw [decide_eq_true_iff];omega
   obtain ⟨r,h9,e9,rfl,o9⟩:=aL.call (C:=CL mx) (ye (mx:=mx) (h:=H7) (lA.zero) (lA.zero) ⟨by decide,by decide,by simp,by simp,by simp,by simp,by simp⟩ 500000 (by omega));simp only [sm2,ldf,n64,g2,ldm,bz,e9];rw [iQ,vu];exact Ends.mk rfl
  |some M=>
   rw [e] at hA hB;obtain ⟨rfl,sA⟩:=hA;obtain ⟨rfl,sB⟩:=hB;have g2:decide (((0:Nat):Int)=0)=true:=by decide
   obtain ⟨r,h9,e9,rfl,o9⟩:=aL.call (C:=CL mx) (ye (mx:=mx) (h:=H7) (sA.up (o5.trans o57)) (sB.up o7) (atL b M hd (by omega) e) 500000 (by omega));simp only [sm2,ldf,n64,g2,ldm,ldb,e9];rw [iQ,vu];exact Ends.mk rfl
 ·have g1':decide (400<(b.length:Int))=true:=by rw [decide_eq_true_iff];omega
  simp only [sm2,av1,hm,hlen,n64,g1'];rw [iQ,vu];exact Ends.mk rfl
end
theorem uY {n:Nat}: ∀{len:Nat} {cs:List AV},TyL (TyC Tryz.prog n) (List.replicate len 5) cs→ ∃L:List Nat,cs=aI L∧L.length=len∧ ∀x∈L,x<256
 |0,cs,h=>by
  rw [show cs=[] from h];exact ⟨[],rfl,rfl,fun _ h=>nomatch h⟩
 |len+1,cs,h=>by
  rw [CI] at h;obtain ⟨a,r,rfl,h1,h2⟩:=h;obtain ⟨L,rfl,g2,g3⟩:=uY h2;obtain ⟨k,rfl,wk⟩:=TyC.avZ Tryz.underlying5 h1;obtain ⟨k0,k1⟩:=Go.bounds_u8 wk;obtain ⟨q,rfl⟩: ∃q:Nat,k=(q:Int):=⟨k.toNat,by omega⟩;refine ⟨q::L,rfl,by simp [g2],fun x hx=>?_⟩;rcases Bv.1 hx with rfl|hx
  ·omega
  ·exact g3 x hx
set_option maxRecDepth 100000 in
theorem ag8 {n:Nat} {a:AV} (t:TyC Tryz.prog n 22 [a]): ∃l:List Nat,cO a (aI l)∧ ∀x∈l,x<256:=by
 rcases TyC.adu Tryz.underlying22 t with e|e|⟨m,cs,len,e,g1,g2,g3⟩
 ·cases e;exact ⟨[],.inl ⟨rfl,.inl rfl⟩,by simp⟩
 ·cases e;exact ⟨[],.inl ⟨rfl,.inr rfl⟩,by simp⟩
 ·cases e
  obtain ⟨L,rfl,q2,q3⟩:=uY g3;exact ⟨L,.inr (by rw [ba,q2]),q3⟩
set_option maxRecDepth 100000 in
theorem uj {W:World} {args:Array Value} {a0:AV} {n0:Nat} {mx:Int} (I:Inv (C0 mx) (· <W.heap.size) W ρ0 []) (hv:VL (· <W.heap.size) W [a0] ρ0 args.toList)
 (t0:TyV Tryz.prog n0 22 a0):Calls Tryz.prog 3 args W fun e w'=>e= .returned (.bool true)∧RowKit.Below W.heap.size W w':=by
 obtain ⟨b,h0,hd⟩:=ag8 (n:=n0) (a:=a0) (by unfold TyV at t0;rw [Tryz.underlying22] at t0;exact t0)
 obtain ⟨r,h',e,rfl⟩:=agV (mx:=mx) h0 hd;exact zx (aqq awL 500001 _ _ _ _ _ e) (((I.cR (nS _ _)).cR (js _ _)).cR (n7 _ _)) hv
end Go.Proofs.YtemmgalfdmnkoaaGreatDoor
