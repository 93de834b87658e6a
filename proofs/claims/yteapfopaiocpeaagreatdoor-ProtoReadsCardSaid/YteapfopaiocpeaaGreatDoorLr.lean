/- The law ProtoReads: its run. The function's code is printed by a program. -/
import Derived.Test.YteapfopaiocpeaaGreatDoorRt
namespace Go.Proofs.YteapfopaiocpeaaGreatDoor
set_option linter.unusedSimpArgs false
set_option linter.unusedVariables false
set_option linter.unnecessarySimpa false
set_option linter.defProp false
noncomputable section
def oc (v0 v2 v3 v4 v5 v6 v8 v11 v25:AV):Tm:=(.nd 5 (.nd 3 (.nd 2 (.lf 0 v0) (.lf 2 v2)) (.nd 4 (.lf 3 v3) (.lf 4 v4))) (.nd 8 (.nd 6 (.lf 5 v5) (.lf 6 v6)) (.nd 11 (.lf 8 v8) (.nd 25 (.lf 11 v11) (.lf 25 v25)))))
def abu (mx:Int):K:=kAt [] (kOf (CL mx) 3)
section
set_option maxRecDepth 100000
variable (mx:Int) (run:Run) (lp:Lp) (κn:Kt) (κx:Ex→Kt) (h:AH) (v0 v2 v3 v4 v5 v6 v8 v11 v25:AV)
theorem ae3:kc (CL mx) run lp (abu mx) ⟨oc v0 v2 v3 v4 v5 v6 v8 v11 v25,h⟩ κn κx=aJ (fun a0 h=>lD a0 h (fun a1 h=>bn a1 (κx .ret ⟨oc v0 (.bool false) v3 v4 v5 v6 a1 v11 v25,h⟩) (bF v0 h (fun a2 h=>cmp igt a2 (.int 9223372036854775807 300) h (fun a3 h=>bn a3 (κx .ret ⟨oc v0 (.bool true) v3 v4 v5 v6 a1 a3 v25,h⟩) (aJ (fun a4 h=>aJ (fun a5 h=>aJ (fun a6 h=>dm 0 a6 h (fun a7 h=>dm 1 a6 h (fun a8 h=>eH h (.cells [.int 9223372036854775807 0,.int 9223372036854775807 0] 28) (fun a9 h=>aL 2 a9 a8 h (fun a10 h=>aJ (fun a11 h=>dm 0 a11 h (fun a12 h=>dm 1 a11 h (fun a13 h=>lD a13 h (fun a14 h=>bn a14 (aj 0 a9 h (fun a15 h=>ao a15 h (fun a16 h=>cmp ine a16 (.int 9223372036854775807 0) h (fun a17 h=>ar a17 true (fun κ=>aN a7 h κ) h (fun a18 h=>ar a17 true (fun κ=>bF a18 h κ) h (fun a19 h=>ar a17 true (fun κ=>cmp bP a19 (.int 9223372036854775807 0) h κ) h (fun a20 h=>dh a17 a20 (.bool false) h (fun a21 h=>κx .ret ⟨oc v0 a21 a7 a9 a12 a13 a1 a3 a14,h⟩)))))))) (aj 0 a9 h (fun a15 h=>ao a15 h (fun a16 h=>cmp bP a16 (.int 9223372036854775807 0) h (fun a17 h=>ar a17 true (fun κ=>aN a7 h κ) h (fun a18 h=>ar a17 true (fun κ=>aN a12 h κ) h (fun a19 h=>ar a17 true (fun κ=>aJ κ (aE (CL mx) run 10 [a18,a19] h)) h (fun a20 h=>dh a17 a20 (.bool false) h (fun a21 h=>κx .ret ⟨oc v0 a21 a7 a9 a12 a13 a1 a3 a14,h⟩)))))))))))) (aE (CL mx) run 9 [v0] h)))))) (aE (CL mx) run 7 [a4,v0,a5] h)) (aE (CL mx) run 8 [] h)) (aE (CL mx) run 6 [] h))))))) (aE (CL mx) run 5 [] h):=by kernel_rfl
theorem sW:kcE (CL mx) [.tmp 2] ⟨oc v0 v2 v3 v4 v5 v6 v8 v11 v25,h⟩=some (.vh v2 h):=(bH _ _ _).trans (by kernel_rfl)
theorem aoc:cZ (CL mx) 3=some ⟨abu mx,[0,2,3,4,5,6,8,11,25],42,[.tmp 2]⟩:=by kernel_rfl
end
theorem akF (mx:Int) (run:Run) (lp:Lp) (x0:AV) (h:AH):cP (CL mx) run lp 3 [x0] h=vhO (kc (CL mx) run lp (abu mx) ⟨oc x0 .bot .bot .bot .bot .bot .bot .bot .bot,h⟩ (kcE (CL mx) [.tmp 2]) (kcQ (CL mx) [.tmp 2])):=(bI (by kernel_rfl) (aoc mx) (by kernel_rfl)).trans (by kernel_rfl)
end
section
variable {mx:Int} {h:AH}
theorem apQ: ∀(k:Nat) (b:List Nat) (L:List gJ),(∀y∈b,y<256)→dW k b=some L→BOk L
 |0,b,L,hd,e=>by
  obtain rfl:[]=L:=by simpa [dW] using e
  intro x hx;simp at hx
 |k+1,b,L,hd,e=>by
  unfold dW at e
  by_cases hb:b=[]
  ·rw [if_pos hb] at e
   obtain rfl:[]=L:=by simpa using e
   intro x hx;simp at hx
  rw [if_neg hb] at e
  cases e1:gq b with
  |none=>rw [e1] at e;cases e
  |some xr=>
   obtain ⟨x,r⟩:=xr
   rw [e1] at e
   cases e2:dW k r with
   |none=>
    have:(dW k r).map (x:: ·)=some L:=e
    rw [e2] at this;cases this
   |some L'=>
    obtain rfl:x::L'=L:=by
     have:(dW k r).map (x:: ·)=some L:=e
     rw [e2] at this
     simpa using this
    have key:=apt b x r hb hd e1
    have ih:=apQ k r L' key.2.2 e2
    intro y hy
    rcases List.mem_cons.1 hy with rfl|hy
    ·refine ⟨?_,key.1.val⟩
     by_cases h2:y.ty=2
     ·unfold gq at e1
      split at e1
      ·cases e1
      ·unfold l7 at e1
       split at e1
       ·split at e1
        ·cases e1
        ·cases e1;cases h2
       ·split at e1
        ·split at e1
         ·cases e1
         ·cases e1;cases h2
        ·split at e1
         ·split at e1
          ·cases e1
          ·cases e1
           intro c hc
           exact hd c (List.mem_of_mem_drop (List.mem_of_mem_drop (List.mem_of_mem_take hc)))
         ·split at e1
          ·split at e1
           ·cases e1
           ·cases e1;cases h2
          ·cases e1
     ·rw [key.1.nod h2]
      intro c hc;simp at hc
    ·exact ih y hy
theorem afF {v0:AV} {b:List Nat} (hp:dj v0 (aR b)) (hd: ∀c∈b,c<256):aC (fun r _=>r= .bool true) ((rl (CL mx) 30001).run 3 [v0] []):=by
 refine aC.runs (n:=30000) (akF mx _ _ _ _) ?_
 have hlen:=fun (h:AH) (κ:Ka)=>(hp.at h).bF h κ
 rw [bg] at hlen
 have hm:=fun h=>abO (C:=CL mx) (run:=(rl (CL mx) 30000).run) (h:=h) (f:=5) (args:=[]) (v:=.bool true) (by kernel_rfl) (by kernel_rfl) (by kernel_rfl)
 refine wEq (ae3 ..) ?_
 by_cases hb:b.length≤300
 ·have g1:decide ((b.length:Int)>300)=false:=by rw [decide_eq_false_iff_not];omega
  have g1':decide (300<(b.length:Int))=false:=by rw [decide_eq_false_iff_not];omega
  simp only [sy,List.length_append,Nat.reduceAdd,Nat.reduceMul,Nat.reduceSub,Nat.reduceLeDiff,Nat.reduceEqDiff,Nat.reduceLT,reduceIte,hm,hlen,g1,g1']
  refine bG (ahs (mx:=mx) 29999).call ?_
  rintro r h1 ⟨rfl,rfl⟩
  simp only [sy,List.length_append,Nat.reduceAdd,Nat.reduceMul,Nat.reduceSub,Nat.reduceLeDiff,Nat.reduceEqDiff,Nat.reduceLT,reduceIte,ajg (mx:=mx) 29999]
  have hv:v0.nb=true∧v0.cells=[v0]:=⟨(hp.at []).nb,(hp.at []).cells⟩
  refine bG (acd (mx:=mx) (h:=HN) (bv:=v0) (data:=b) asY (.inl rfl) (by omega) hd (fun n _=>hp.lt n) hv (fun h' _ _=>.inl hp) 30000 (by omega)).call ?_
  rintro r h1 ⟨fx,it,hr⟩
  have fg:=fun h=>ags (mx:=mx) (h:=h) hp (by omega) hd 30000 (by omega)
  cases hL:dW (b.length+1) b with
  |none=>
   rw [hL] at hr
   obtain ⟨e,a,ne,rfl⟩:=hr
   have st: ∀κ:Ka,aL 2 (.pto h1.length 0) (.agg [N64 e,N64 a]) (h1++[some (.cells [.int 9223372036854775807 0,.int 9223372036854775807 0] (27+1))]) κ=κ (.tup []) (h1++[some (.cells [N64 e,N64 a] (27+1))]):=fun κ=>cT rfl rfl rfl
   simp only [kR,eX,uK,List.getElem?_cons_zero,List.getElem?_cons_succ]
   refine wEq (st _) ?_
   have t1:=aH h1 (some (Blk.cells [N64 e,N64 a] (27+1)))
   refine bG (fg _).call ?_
   rintro r h2 ⟨l2,o2,hr⟩
   rw [hL] at hr
   subst hr
   rw [List.length_append] at l2
   simp only [List.length_cons,List.length_nil] at l2
   have t2:=(o2 h1.length (by rw [List.length_append];simp)).trans t1
   simp only [n64] at t2
   have g2:decide ((e:Int)≠0)=true:=by rw [decide_eq_true_iff];omega
   simp only [sy,List.length_append,Nat.reduceAdd,Nat.reduceMul,Nat.reduceSub,Nat.reduceLeDiff,Nat.reduceEqDiff,Nat.reduceLT,reduceIte,t2,g2,sW]
   exact Ends.mk rfl
  |some L=>
   rw [hL] at hr
   obtain ⟨v,rfl,rows,ow,rl',hrow⟩:=hr
   have st: ∀κ:Ka,aL 2 (.pto h1.length 0) (.agg [N64 0,N64 0]) (h1++[some (.cells [.int 9223372036854775807 0,.int 9223372036854775807 0] (27+1))]) κ=κ (.tup []) (h1++[some (.cells [N64 0,N64 0] (27+1))]):=fun κ=>cT rfl rfl rfl
   simp only [kR,eX,uK,List.getElem?_cons_zero,List.getElem?_cons_succ]
   refine wEq (st _) ?_
   have t1:=aH h1 (some (Blk.cells [N64 0,N64 0] (27+1)))
   refine bG (fg _).call ?_
   rintro r h2 ⟨l2,o2,hr⟩
   rw [hL] at hr
   obtain ⟨w,rfl,FS⟩:=hr
   rw [List.length_append] at l2
   simp only [List.length_cons,List.length_nil] at l2
   have t2:=(o2 h1.length (by rw [List.length_append];simp)).trans t1
   have t2':aa h2 h1.length=some (.cells [.int 9223372036854775807 0,.int 9223372036854775807 0] (27+1)):=t2
   have oo: ∀i,i<h1.length→aa h2 i=aa h1 i:=fun i hi=>by rw [o2 i (by rw [List.length_append];simp;omega),ak hi]
   have bo:=apQ _ _ _ hd hL
   have ho:=amB _ _ _ hd hL
   have fa:FAt h2 v L:=FAt.of (ow.mono fun b hb hs=>⟨hs,oo b hb⟩) rl' fun i r x hi hx=>by
    obtain ⟨dv,e,D⟩:=hrow i r x hi hx
    exact ⟨dv,e,(D.mono fun b hb hs=>⟨hs,oo b hb⟩).at⟩
   obtain ⟨rows2,ow2,rl2,hrow2⟩:=FS.ex
   have fb:FAt h2 w L:=FAt.of ow2 rl2 fun i r x hi hx=>by
    obtain ⟨dv,e,_,D⟩:=hrow2 i r x hi hx
    exact ⟨dv,e,D.at h2⟩
   have g2:decide ((0:Int)=0)=true:=by decide
   simp only [sy,List.length_append,Nat.reduceAdd,Nat.reduceMul,Nat.reduceSub,Nat.reduceLeDiff,Nat.reduceEqDiff,Nat.reduceLT,reduceIte,t2',g2]
   refine bG (afn (mx:=mx) fa fb bo bo (by have:=ho.2;omega) 30000 (by omega)).call ?_
   rintro r h3 ⟨⟨q,rfl,hq⟩,rfl⟩
   obtain rfl:q=true:=hq.2 rfl
   simp only [sy,List.length_append,Nat.reduceAdd,Nat.reduceMul,Nat.reduceSub,Nat.reduceLeDiff,Nat.reduceEqDiff,Nat.reduceLT,reduceIte,sW]
   exact Ends.mk rfl
 ·have g1:decide ((b.length:Int)>300)=true:=by rw [decide_eq_true_iff];omega
  have g1':decide (300<(b.length:Int))=true:=by rw [decide_eq_true_iff];omega
  simp only [sy,List.length_append,Nat.reduceAdd,Nat.reduceMul,Nat.reduceSub,Nat.reduceLeDiff,Nat.reduceEqDiff,Nat.reduceLT,reduceIte,hm,hlen,g1,g1',sW]
  exact Ends.mk rfl
end
theorem tG {n:Nat}: ∀{len:Nat} {cs:List AV},TyL (TyC Tryz.prog n) (List.replicate len 5) cs→ ∃L:List Nat,cs=aR L∧L.length=len∧ ∀x∈L,x<256
 |0,cs,h=>by
  rw [show cs=[] from h]
  exact ⟨[],rfl,rfl,fun _ h=>nomatch h⟩
 |len+1,cs,h=>by
  rw [List.replicate_succ] at h
  obtain ⟨a,r,rfl,h1,h2⟩:=h
  obtain ⟨L,rfl,g2,g3⟩:=tG h2
  obtain ⟨k,rfl,wk⟩:=TyC.aqz Tryz.underlying5 h1
  obtain ⟨k0,k1⟩:=Go.bounds_u8 wk
  obtain ⟨q,rfl⟩: ∃q:Nat,k=(q:Int):=⟨k.toNat,by omega⟩
  refine ⟨q::L,rfl,by simp [g2],fun x hx=>?_⟩
  rcases List.mem_cons.1 hx with rfl|hx
  ·omega
  ·exact g3 x hx
set_option maxRecDepth 100000 in
theorem af0 {n:Nat} {a:AV} (t:TyC Tryz.prog n 22 [a]): ∃l:List Nat,dj a (aR l)∧ ∀x∈l,x<256:=by
 rcases TyC.aa8 Tryz.underlying22 t with e|e|⟨m,cs,len,e,g1,g2,g3⟩
 ·cases e;exact ⟨[],.inl ⟨rfl,.inl rfl⟩,by simp⟩
 ·cases e;exact ⟨[],.inl ⟨rfl,.inr rfl⟩,by simp⟩
 ·cases e
  obtain ⟨L,rfl,q2,q3⟩:=tG g3
  exact ⟨L,.inr (by rw [bg,q2]),q3⟩
set_option maxRecDepth 100000 in
theorem qm {W:World} {args:Array Value} {a0:AV} {n0:Nat} {mx:Int} (I:Inv (C0 mx) (· <W.heap.size) W ρ0 []) (hv:VL (· <W.heap.size) W [a0] ρ0 args.toList)
 (t0:TyV Tryz.prog n0 22 a0):Calls Tryz.prog 3 args W fun e w'=>e= .returned (.bool true)∧RowKit.Below W.heap.size W w':=by
 obtain ⟨b,h0,hd⟩:=af0 (n:=n0) (a:=a0) (by unfold TyV at t0;rw [Tryz.underlying22] at t0;exact t0)
 obtain ⟨r,h',e,rfl⟩:=afF (mx:=mx) h0 hd
 exact xR (ao5 asX 30001 _ _ _ _ _ e) (((I.aB (na _ _)).aB (iO _ _)).aB (nC _ _)) hv
end Go.Proofs.YteapfopaiocpeaaGreatDoor
