/- The law ProtoJoins: its run. The function's code is printed by a program. -/
import Derived.Test.YteapfopaiocpeaaGreatDoorJr
namespace Go.Proofs.YteapfopaiocpeaaGreatDoor
set_option linter.unusedSimpArgs false
set_option linter.unusedVariables false
set_option linter.unnecessarySimpa false
set_option linter.defProp false
noncomputable section
def gC (v0 v1 v2 v6 v7 v8 v9 v10 v11 v12 v13 v14 v15 v16 v17 v19 v27 v50 v74 v103:AV):Tm:=(.nd 13 (.nd 8 (.nd 2 (.nd 1 (.lf 0 v0) (.lf 1 v1)) (.nd 6 (.lf 2 v2) (.nd 7 (.lf 6 v6) (.lf 7 v7)))) (.nd 10 (.nd 9 (.lf 8 v8) (.lf 9 v9)) (.nd 11 (.lf 10 v10) (.nd 12 (.lf 11 v11) (.lf 12 v12))))) (.nd 19 (.nd 15 (.nd 14 (.lf 13 v13) (.lf 14 v14)) (.nd 16 (.lf 15 v15) (.nd 17 (.lf 16 v16) (.lf 17 v17)))) (.nd 50 (.nd 27 (.lf 19 v19) (.lf 27 v27)) (.nd 74 (.lf 50 v50) (.nd 103 (.lf 74 v74) (.lf 103 v103))))))
def abq (mx:Int):K:=kAt [] (kOf (CL mx) 4)
def aie (mx:Int):K:=kAt [1,1,1,1,1,1,1,1,1,1,1,1,1,0] (kOf (CL mx) 4)
def amh (mx:Int):K:=kAt [1,1,1,1,1,1,1,1,1,1,1,1,1,1] (kOf (CL mx) 4)
section
set_option maxRecDepth 100000
variable (mx:Int) (run:Run) (lp:Lp) (κn:Kt) (κx:Ex→Kt) (h:AH) (v0 v1 v2 v6 v7 v8 v9 v10 v11 v12 v13 v14 v15 v16 v17 v19 v27 v50 v74 v103:AV)
theorem agq:kc (CL mx) run lp (abq mx) ⟨gC v0 v1 v2 v6 v7 v8 v9 v10 v11 v12 v13 v14 v15 v16 v17 v19 v27 v50 v74 v103,h⟩ κn κx=aL (fun a0 h=>ot a0 h (fun a1 h=>bG a1 (κx .ret ⟨gC v0 v1 v2 (.bool false) v7 v8 v9 v10 v11 v12 v13 v14 v15 v16 v17 a1 v27 v50 v74 v103,h⟩) (bH v0 h (fun a2 h=>cmp igt a2 (.int 9223372036854775807 200) h (fun a3 h=>av a3 false (fun κ=>aY v1 h κ) h (fun a4 h=>av a3 false (fun κ=>bH a4 h κ) h (fun a5 h=>av a3 false (fun κ=>cmp igt a5 (.int 9223372036854775807 200) h κ) h (fun a6 h=>fm a3 (.bool true) a6 h (fun a7 h=>bG a7 (κx .ret ⟨gC v0 v1 v2 (.bool true) v7 v8 v9 v10 v11 v12 v13 v14 v15 v16 v17 a1 a7 v50 v74 v103,h⟩) (aL (fun a8 h=>aL (fun a9 h=>aL (fun a10 h=>eO 0 a10 h (fun a11 h=>eO 1 a10 h (fun a12 h=>dY h (.cells [.int 9223372036854775807 0,.int 9223372036854775807 0] 28) (fun a13 h=>aK 2 a13 a12 h (fun a14 h=>aL (fun a15 h=>aL (fun a16 h=>eO 0 a16 h (fun a17 h=>eO 1 a16 h (fun a18 h=>dY h (.cells [.int 9223372036854775807 0,.int 9223372036854775807 0] 28) (fun a19 h=>aK 2 a19 a18 h (fun a20 h=>ao 0 a13 h (fun a21 h=>ar a21 h (fun a22 h=>cmp ine a22 (.int 9223372036854775807 0) h (fun a23 h=>av a23 false (fun κ=>ao 0 a19 h κ) h (fun a24 h=>av a23 false (fun κ=>ar a24 h κ) h (fun a25 h=>av a23 false (fun κ=>cmp ine a25 (.int 9223372036854775807 0) h κ) h (fun a26 h=>fm a23 (.bool true) a26 h (fun a27 h=>bG a27 (κx .ret ⟨gC v0 v1 v2 (.bool true) a8 a11 a13 a17 a19 v12 v13 v14 v15 v16 v17 a1 a7 a27 v74 v103,h⟩) (fD 1 0 [.int 255 0] [] h (fun a28 h=>eH 6 1 1 a28 v0 h (fun a29 h=>eH 6 1 1 a29 v1 h (fun a30 h=>aL (fun a31 h=>aL (fun a32 h=>eO 0 a32 h (fun a33 h=>eO 1 a32 h (fun a34 h=>dY h (.cells [.int 9223372036854775807 0,.int 9223372036854775807 0] 28) (fun a35 h=>aK 2 a35 a34 h (fun a36 h=>ao 0 a35 h (fun a37 h=>ar a37 h (fun a38 h=>cmp ine a38 (.int 9223372036854775807 0) h (fun a39 h=>av a39 false (fun κ=>aY a33 h κ) h (fun a40 h=>av a39 false (fun κ=>fD 4 0 [.int 9223372036854775807 0,.int 9223372036854775807 0,.int 18446744073709551615 0,.nils] [] h κ) h (fun a41 h=>av a39 false (fun κ=>aY a11 h κ) h (fun a42 h=>av a39 false (fun κ=>eH 43 4 48 a41 a42 h κ) h (fun a43 h=>av a39 false (fun κ=>aY a17 h κ) h (fun a44 h=>av a39 false (fun κ=>eH 43 4 48 a43 a44 h κ) h (fun a45 h=>av a39 false (fun κ=>aL κ (aD (CL mx) run 10 [a40,a45] h)) h (fun a46 h=>av a39 false (fun κ=>ot a46 h κ) h (fun a47 h=>fm a39 (.bool true) a47 h (fun a48 h=>bG a48 (κx .ret ⟨gC v0 v1 v2 (.bool false) a8 a11 a13 a17 a19 a33 a35 v14 v15 v16 v17 a1 a7 a27 a48 v103,h⟩) (aL (fun a49 h=>aL (fun a50 h=>eO 0 a50 h (fun a51 h=>eO 1 a50 h (fun a52 h=>dY h (.cells [.int 9223372036854775807 0,.int 9223372036854775807 0,.int 18446744073709551615 0,.nils] 43) (fun a53 h=>aK 4 a53 a51 h (fun a54 h=>fD 4 0 [.int 9223372036854775807 0,.int 9223372036854775807 0,.int 18446744073709551615 0,.nils] [] h (fun a55 h=>aL (fun a56 h=>eH 43 4 48 a55 a56 h (fun a57 h=>aL (fun a58 h=>eH 43 4 48 a57 a58 h (fun a59 h=>aL (fun a60 h=>ot a60 h (fun a61 h=>av a61 false (fun κ=>aY a52 h κ) h (fun a62 h=>av a61 false (fun κ=>aY a59 h κ) h (fun a63 h=>av a61 false (fun κ=>bH a63 h κ) h (fun a64 h=>av a61 false (fun κ=>cmp igt a64 (.int 9223372036854775807 0) h κ) h (fun a65 h=>av a61 false (fun κ=>aop ⟨.bool,1,1,[.bool false],false,true⟩ a62 a65 h κ) h (fun a66 h=>fm a61 (.bool true) a66 h (fun a67 h=>bG a67 (κx .ret ⟨gC v0 v1 v2 (.bool false) a8 a11 a13 a17 a19 a33 a35 a49 a53 a52 a59 a1 a7 a27 a48 a67,h⟩) (kc (CL mx) run lp (aie mx) ⟨gC v0 v1 v2 (.bool false) a8 a11 a13 a17 a19 a33 a35 a49 a53 a52 a59 a1 a7 a27 a48 a67,h⟩ (fun s=>kc (CL mx) run lp (amh mx) s κn κx) κx))))))))) (aD (CL mx) run 10 [a49,a59] h))) (aD (CL mx) run 11 [v2,a17] h))) (aD (CL mx) run 11 [v2,a11] h))))))) (aD (CL mx) run 12 [v2,a33] h)) (aD (CL mx) run 11 [v2,a33] h))))))))))))))))))) (aD (CL mx) run 7 [a8,a30,a31] h)) (aD (CL mx) run 8 [] h))))))))))))))))) (aD (CL mx) run 7 [a8,v1,a15] h)) (aD (CL mx) run 8 [] h)))))) (aD (CL mx) run 7 [a8,v0,a9] h)) (aD (CL mx) run 8 [] h)) (aD (CL mx) run 6 [] h))))))))))) (aD (CL mx) run 5 [] h):=by kernel_rfl
theorem agJ:kc (CL mx) run lp (aie mx) ⟨gC v0 v1 v2 v6 v7 v8 v9 v10 v11 v12 v13 v14 v15 v16 v17 v19 v27 v50 v74 v103,h⟩ κn κx=ot v16 h (fun a0 h=>av a0 false (fun κ=>aQ 4 v15 h κ) h (fun a1 h=>av a0 false (fun κ=>fD 4 1 [.int 9223372036854775807 0,.int 9223372036854775807 0,.int 18446744073709551615 0,.nils] [(0,a1)] h κ) h (fun a2 h=>av a0 false (fun κ=>aY v17 h κ) h (fun a3 h=>av a0 false (fun κ=>aY v17 h κ) h (fun a4 h=>av a0 false (fun κ=>bH a4 h κ) h (fun a5 h=>av a0 false (fun κ=>arith iT a5 (.int 9223372036854775807 1) h κ) h (fun a6 h=>av a0 false (fun κ=>slS 4 a3 (some a6) none none h κ) h (fun a7 h=>av a0 false (fun κ=>aL κ (aD (CL mx) run 10 [a2,a7] h)) h (fun a8 h1=>bq (Nat.ble (aj h) (aj h1)) ((fun h=>fm a0 (.bool true) a8 h (fun a9 h=>κn ⟨gC v0 v1 v2 a9 v7 v8 v9 v10 v11 v12 v13 v14 v15 v16 v17 v19 v27 v50 v74 v103,h⟩)) h1) none))))))))):=(cE (C:=CL mx) (ops:=opsOf (cAt [1,1,1,1,1,1,1,1,1,1,1,1,1,0] (aH (CL mx) 4))) (ps:=[0,1,2,6,7,8,9,10,11,12,13,14,15,16,17,19,27,50,74,103]) (by kernel_rfl) (by kernel_rfl) _ _ _).trans (by kernel_rfl)
theorem wQ:kc (CL mx) run lp (amh mx) ⟨gC v0 v1 v2 v6 v7 v8 v9 v10 v11 v12 v13 v14 v15 v16 v17 v19 v27 v50 v74 v103,h⟩ κn κx=κx .ret ⟨gC v0 v1 v2 v6 v7 v8 v9 v10 v11 v12 v13 v14 v15 v16 v17 v19 v27 v50 v74 v103,h⟩:=by kernel_rfl
theorem kC:kcE (CL mx) [.tmp 6] ⟨gC v0 v1 v2 v6 v7 v8 v9 v10 v11 v12 v13 v14 v15 v16 v17 v19 v27 v50 v74 v103,h⟩=some (.vh v6 h):=(bJ _ _ _).trans (by kernel_rfl)
theorem anH:dp (CL mx) 4=some ⟨abq mx,[0,1,2,6,7,8,9,10,11,12,13,14,15,16,17,19,27,50,74,103],116,[.tmp 6]⟩:=by kernel_rfl
end
theorem aiC (mx:Int) (run:Run) (lp:Lp) (x0 x1 x2:AV) (h:AH):cW (CL mx) run lp 4 [x0,x1,x2] h=vhO (kc (CL mx) run lp (abq mx) ⟨gC x0 x1 x2 .bot .bot .bot .bot .bot .bot .bot .bot .bot .bot .bot .bot .bot .bot .bot .bot .bot,h⟩ (kcE (CL mx) [.tmp 6]) (kcQ (CL mx) [.tmp 6])):=(bK (by kernel_rfl) (anH mx) (by kernel_rfl)).trans (by kernel_rfl)
end
section
variable {mx:Int} {h h' h0:AH} {S:Nat→Prop} {v:AV}
structure Rd (n0:Nat) (h:AH) (v:AV) (L:List dm):Prop where
 ex: ∃rows,OwR h (fun b=>n0≤b) 4 v rows∧rows.length=L.length∧ ∀(i:Nat) r x,rows[i]? =some r→L[i]? =some x→am3 h (fun b=>n0≤b) r x
theorem Rd.mono {n0:Nat} {L:List dm} (a:Rd n0 h v L) (f: ∀i,i<h.length→n0≤i→ae h' i=ae h i):Rd n0 h' v L:=by
 obtain ⟨rows,o,l,r⟩:=a.ex
 refine ⟨rows,o.mono fun b hb hs=>⟨hs,f b hb hs⟩,l,fun i q x hi hx=>?_⟩
 obtain ⟨dv,e,D⟩:=r i q x hi hx
 exact ⟨dv,e,D.mono fun b hb hs=>⟨hs,f b hb hs⟩⟩
theorem iD.lt {dv:AV} {d:List Nat} (D:iD h S dv d):dv.lt h.length=true:=by
 rcases D with ⟨_,rfl⟩|⟨_,b,e,y,rfl,_,e3⟩
 ·rfl
 ·rw [oG,decide_eq_true_iff];exact aO e3
theorem Rd.hr {n0:Nat} {L:List dm} (a:Rd n0 h v L): ∃rows,OwR h (fun b=>n0≤b) 4 v rows∧eA h rows L:=by
 obtain ⟨rows,o,l,r⟩:=a.ex
 refine ⟨rows,o,l,fun i q x hi hx=>?_⟩
 obtain ⟨dv,e,D⟩:=r i q x hi hx
 exact ⟨dv,e,qW D,D.lt,D.at⟩
theorem eA.old {h0 h1:AH} {R:List (List AV)} {L:List dm} (o:Old h0 h1) (a:eA h0 R L):eA h1 R L:=⟨a.1,fun i r x hi hx=>by
 obtain ⟨dv,e,p,l,s⟩:=a.2 i r x hi hx
 refine ⟨dv,e,p,?_,s.frm l o.2⟩
 cases dv<;>first|rfl|(simp only [oG,decide_eq_true_iff] at l ⊢;have:=o.1;omega)|(simp [dq] at s)⟩
theorem OwN.aeW {h0 h:AH} {S:Nat→Prop} {v:AV} {rows:List (List AV)} {L:List dm} {x:dm} (o:OwN h S 4 v rows) (oh:Old h0 h) (a:eA h0 rows L) (hx:L.getLast? =some x) (k:Nat):
 ∃v',(∀(h':AH) (κ:Ka),slS 4 v (some (.int k ((L.length-1:Nat):Int))) none none h' κ=κ v' h')∧FAt h v' [x]:=by
 obtain ⟨hr,b,cap,e,junk,y,hs,o⟩:=o
 rw [List.getLast?_eq_getElem?] at hx
 have hl:L.length-1<L.length:=(List.getElem?_eq_some_iff.1 hx).1
 have hi:L.length-1<rows.length:=by rw [a.1];exact hl
 obtain ⟨q,hq⟩: ∃q,rows[L.length-1]? =some q:=⟨_,List.getElem?_eq_getElem hi⟩
 obtain ⟨dv,rfl,hs⟩:=(a.2 _ q x hq hx).at oh
 have el:=o.el hr hq
 have fit:=o.fit
 have hv:=o.val
 have a1:=a.1
 refine ⟨.slo b ((L.length-1)*4) 1 (cap-(L.length-1)) 4 e,fun h' κ=>?_,?_⟩
 ·rw [hv]
  show mO rows.length cap (some (.int k (Int.ofNat (L.length-1)))) none none (fun l u mm=>bq (Nat.beq 4 4) (bq (Nat.beq l mm) (κ .sle h') (κ (.slo b (Nat.add 0 (Nat.mul l 4)) (Nat.sub u l) (Nat.sub mm l) 4 (or e false)) h')) none)=_
  show bq (and (and (Nat.ble (L.length-1) rows.length) (Nat.ble rows.length cap)) (and (Nat.ble cap cap) (or (not false) false))) (bq (Nat.beq 4 4) (bq (Nat.beq (L.length-1) cap) (κ .sle h') (κ (.slo b (Nat.add 0 (Nat.mul (L.length-1) 4)) (Nat.sub rows.length (L.length-1)) (Nat.sub cap (L.length-1)) 4 (or e false)) h')) none) none=_
  rw [bL,bL,bL,jr,jr,decide_eq_true (show L.length-1≤rows.length by omega),decide_eq_true fit,decide_eq_true (Nat.le_refl _),decide_eq_true rfl,decide_eq_false (show ¬L.length-1=cap by omega),Bool.or_false,show Nat.add 0 (Nat.mul (L.length-1) 4)=(L.length-1)*4 from Nat.zero_add _,show Nat.sub rows.length (L.length-1)=1 by show rows.length-_=1;omega]
  cases e<;>rfl
 ·refine ⟨fun h' κ=>rfl,fun i z hz=>?_⟩
  obtain rfl:i=0:=by have:=(List.getElem?_eq_some_iff.1 hz).1;simpa using this
  obtain rfl:x=z:=by simpa using hz
  refine ⟨.pto b ((L.length-1)*4),dv,⟨fun κ=>?_,el.ldG,⟨_,fun κ=>eE _ _ _,el.ld1 0 _ rfl⟩,⟨_,fun κ=>eE _ _ _,el.ld1 1 _ rfl⟩,⟨_,fun κ=>eE _ _ _,el.ld1 2 _ rfl⟩,⟨_,fun κ=>eE _ _ _,el.ld1 3 _ rfl⟩,hs⟩⟩
  rw [rM,bf (by decide)];rfl
theorem ahP (a b:Bool) (h:AH) (κ:Ka):aop ⟨.bool,1,1,[.bool false],false,true⟩ (.bool a) (.bool b) h κ=κ (.bool (decide (a≠b))) h:=by
 cases a<;>cases b<;>rfl
theorem aiG: ∀(k:Nat) (b:List Nat) (L:List dm),(∀y∈b,y<256)→c7 k b=some L→BOk L
 |0,b,L,hd,e=>by
  obtain rfl:[]=L:=by simpa [c7] using e
  intro x hx;simp at hx
 |k+1,b,L,hd,e=>by
  unfold c7 at e
  by_cases hb:b=[]
  ·rw [if_pos hb] at e
   obtain rfl:[]=L:=by simpa using e
   intro x hx;simp at hx
  rw [if_neg hb] at e
  cases e1:fg b with
  |none=>rw [e1] at e;cases e
  |some xr=>
   obtain ⟨x,r⟩:=xr
   rw [e1] at e
   cases e2:c7 k r with
   |none=>
    have:(c7 k r).map (x:: ·)=some L:=e
    rw [e2] at this;cases this
   |some L'=>
    obtain rfl:x::L'=L:=by
     have:(c7 k r).map (x:: ·)=some L:=e
     rw [e2] at this
     simpa using this
    have key:=apN b x r hb hd e1
    have ih:=aiG k r L' key.2.2 e2
    intro y hy
    rcases List.mem_cons.1 hy with rfl|hy
    ·refine ⟨?_,key.1.val⟩
     by_cases h2:y.ty=2
     ·unfold fg at e1
      split at e1
      ·cases e1
      ·unfold kQ at e1
       split at e1
       ·split at e1
        ·cases e1
        ·cases e1;cases h2
       ·split at e1
        ·split at e1
         ·cases e1
         ·cases e1;cases h2
        ·split at e1
         ·split at e1
          ·cases e1
          ·cases e1
           intro c hc
           exact hd c (List.mem_of_mem_drop (List.mem_of_mem_drop (List.mem_of_mem_take hc)))
         ·split at e1
          ·split at e1
           ·cases e1
           ·cases e1;cases h2
          ·cases e1
     ·rw [key.1.nod h2]
      intro c hc;simp at hc
    ·exact ih y hy
theorem flt (h:AH) (y:Nat) (e a:Nat) (κ:Ka):aK 2 (.pto h.length 0) (.agg [N64 e,N64 a]) (h++[some (.cells [.int 9223372036854775807 0,.int 9223372036854775807 0] y)]) κ=κ (.tup []) (h++[some (.cells [N64 e,N64 a] y)]):=cY rfl rfl rfl
theorem adW {l:List Nat} {v:AV} (p:hI v (aS l)) (h:AH):lO v=some ((aS l).map fun c=>[c]).length∧cQ h 1 ((aS l).map fun c=>[c]).length v=some ((aS l).map fun c=>[c]).flatten:=by
 have a:=(p.at h).lO
 have b:=(p.at h).elems
 rw [List.length_map,sF]
 exact ⟨a,b⟩
theorem ahg {v0 v1:AV} {a b:List Nat} (n:Int) (pa:hI v0 (aS a)) (pb:hI v1 (aS b)) (ha: ∀c∈a,c<256) (hb: ∀c∈b,c<256):aG (fun r _=>r= .bool true) ((rl (CL mx) 30001).run 4 [v0,v1,.int 9223372036854775807 n] []):=by
 refine aG.runs (n:=30000) (aiC mx _ _ _ _ _ _) ?_
 have la:=fun (h:AH) (κ:Ka)=>(pa.at h).bH h κ
 have lb:=fun (h:AH) (κ:Ka)=>(pb.at h).bH h κ
 rw [bW] at la lb
 have hm:=fun h=>acf (C:=CL mx) (run:=(rl (CL mx) 30000).run) (h:=h) (f:=5) (args:=[]) (v:=.bool true) (by kernel_rfl) (by kernel_rfl) (by kernel_rfl)
 refine wEq (agq ..) ?_
 by_cases hla:a.length≤200
 case neg=>
  have g1:decide (200<(a.length:Int))=true:=by rw [decide_eq_true_iff];omega
  simp only [sy,List.length_append,Nat.reduceAdd,Nat.reduceMul,Nat.reduceSub,Nat.reduceLeDiff,Nat.reduceEqDiff,Nat.reduceLT,reduceIte,hm,la,g1,kC]
  exact Ends.mk rfl
 have g1:decide (200<(a.length:Int))=false:=by rw [decide_eq_false_iff_not];omega
 by_cases hlb:b.length≤200
 case neg=>
  have g2:decide (200<(b.length:Int))=true:=by rw [decide_eq_true_iff];omega
  simp only [sy,List.length_append,Nat.reduceAdd,Nat.reduceMul,Nat.reduceSub,Nat.reduceLeDiff,Nat.reduceEqDiff,Nat.reduceLT,reduceIte,hm,la,lb,g1,g2,kC]
  exact Ends.mk rfl
 have g2:decide (200<(b.length:Int))=false:=by rw [decide_eq_false_iff_not];omega
 simp only [sy,List.length_append,Nat.reduceAdd,Nat.reduceMul,Nat.reduceSub,Nat.reduceLeDiff,Nat.reduceEqDiff,Nat.reduceLT,reduceIte,hm,la,lb,g1,g2]
 refine bE (agH (mx:=mx) 29999).call ?_
 rintro r h1 ⟨rfl,rfl⟩
 simp only [sy,List.length_append,Nat.reduceAdd,Nat.reduceMul,Nat.reduceSub,Nat.reduceLeDiff,Nat.reduceEqDiff,Nat.reduceLT,reduceIte,akR (mx:=mx) 29999]
 refine bE (oU (mx:=mx) (h:=HN) (bv:=v0) (data:=a) aiV (.inl rfl) (by omega) ha (fun n _=>pa.lt n) ⟨(pa.at []).nb,(pa.at []).cells⟩ (fun h' _ _=>.inl pa) 30000 (by omega)).call ?_
 rintro r h1 ⟨fx1,it1,hr1⟩
 have hnl:HN.length=7:=by kernel_rfl
 obtain ⟨yf,hyf⟩: ∃y:Nat,y=27+1:=⟨_,rfl⟩
 have hyf':=hyf
 simp only [Nat.reduceAdd] at hyf'
 -- the first one
 obtain ⟨xv,ea,aa,rfl,hx⟩: ∃(xv:AV) (ea aa:Nat),r= .tup [xv,.agg [N64 ea,N64 aa]]∧((ea≠0)∨(ea=0∧ ∃X,c7 (a.length+1) a=some X∧Rd 7 h1 xv X)):=by
  cases hX:c7 (a.length+1) a with
  |none=>
   rw [hX] at hr1
   obtain ⟨e,q,ne,rfl⟩:=hr1
   exact ⟨_,e,q,rfl,.inl ne⟩
  |some X=>
   rw [hX] at hr1
   obtain ⟨v,rfl,rows,o,l,hrow⟩:=hr1
   exact ⟨v,0,0,rfl,.inr ⟨rfl,X,rfl,⟨⟨rows,by rw [hnl] at o;exact o,l,by rw [hnl] at hrow;exact hrow⟩⟩⟩⟩
 simp only [iK,dC,j6,List.getElem?_cons_zero,List.getElem?_cons_succ]
 refine wEq (flt _ _ _ _ _) ?_
 obtain ⟨H1,hH1⟩: ∃H1,H1=h1++[some (.cells [N64 ea,N64 aa] yf)]:=⟨_,rfl⟩
 rw [←hyf',←hH1]
 have l1:H1.length=h1.length+1:=by rw [hH1];simp
 have o1: ∀i,i<h1.length→ae H1 i=ae h1 i:=fun i hi=>by rw [hH1,aq hi]
 have e1:ae H1 h1.length=some (.cells [N64 ea,N64 aa] yf):=by rw [hH1,aI]
 have l17:=fx1.1
 have F1:Fm H1:=aiV.of aiV.lt fun i hi hn=>(o1 i (by omega)).trans (fx1.2 i hi hn)
 have I1:It H1 3 dB fA:=it1.of (o1 3 (by omega))
 refine bE (oU (mx:=mx) (h:=H1) (bv:=v1) (data:=b) F1 (.inr I1) (by omega) hb (fun n _=>pb.lt n) ⟨(pb.at []).nb,(pb.at []).cells⟩ (fun h' _ _=>.inl pb) 30000 (by omega)).call ?_
 rintro r h2 ⟨fx2,it2,hr2⟩
 obtain ⟨yv,eb,ab,rfl,hy⟩: ∃(yv:AV) (eb ab:Nat),r= .tup [yv,.agg [N64 eb,N64 ab]]∧((eb≠0)∨(eb=0∧ ∃Y,c7 (b.length+1) b=some Y∧Rd H1.length h2 yv Y)):=by
  cases hY:c7 (b.length+1) b with
  |none=>
   rw [hY] at hr2
   obtain ⟨e,q,ne,rfl⟩:=hr2
   exact ⟨_,e,q,rfl,.inl ne⟩
  |some Y=>
   rw [hY] at hr2
   obtain ⟨v,rfl,rows,o,l,hrow⟩:=hr2
   exact ⟨v,0,0,rfl,.inr ⟨rfl,Y,rfl,⟨⟨rows,o,l,hrow⟩⟩⟩⟩
 simp only [iK,dC,j6,List.getElem?_cons_zero,List.getElem?_cons_succ]
 refine wEq (flt _ _ _ _ _) ?_
 obtain ⟨H2,hH2⟩: ∃H2,H2=h2++[some (.cells [N64 eb,N64 ab] yf)]:=⟨_,rfl⟩
 rw [←hH2]
 have l2:H2.length=h2.length+1:=by rw [hH2];simp
 have o2: ∀i,i<h2.length→ae H2 i=ae h2 i:=fun i hi=>by rw [hH2,aq hi]
 have e2:ae H2 h2.length=some (.cells [N64 eb,N64 ab] yf):=by rw [hH2,aI]
 have l21:=fx2.1
 have e12:ae H2 h1.length=some (.cells [N64 ea,N64 aa] yf):=((o2 _ (by omega)).trans (fx2.2 _ (by omega) (by omega))).trans e1
 have e2':=e2
 have e12':=e12
 simp only [n64] at e2' e12'
 by_cases ca:ea=0
 case neg=>
  have g3:decide ((ea:Int)≠0)=true:=by rw [decide_eq_true_iff];omega
  simp only [sy,List.length_append,Nat.reduceAdd,Nat.reduceMul,Nat.reduceSub,Nat.reduceLeDiff,Nat.reduceEqDiff,Nat.reduceLT,reduceIte,e12',g3,kC]
  exact Ends.mk rfl
 by_cases cb:eb=0
 case neg=>
  have g3:decide ((ea:Int)≠0)=false:=by rw [decide_eq_false_iff_not];omega
  have g4:decide ((eb:Int)≠0)=true:=by rw [decide_eq_true_iff];omega
  simp only [sy,List.length_append,Nat.reduceAdd,Nat.reduceMul,Nat.reduceSub,Nat.reduceLeDiff,Nat.reduceEqDiff,Nat.reduceLT,reduceIte,e12',e2',g3,g4,kC]
  exact Ends.mk rfl
 have g3:decide ((ea:Int)≠0)=false:=by rw [decide_eq_false_iff_not];omega
 have g4:decide ((eb:Int)≠0)=false:=by rw [decide_eq_false_iff_not];omega
 obtain ⟨X,hX,RX⟩:=(hx.resolve_left fun c=>c ca).2
 obtain ⟨Y,hY,RY⟩:=(hy.resolve_left fun c=>c cb).2
 simp only [sy,List.length_append,Nat.reduceAdd,Nat.reduceMul,Nat.reduceSub,Nat.reduceLeDiff,Nat.reduceEqDiff,Nat.reduceLT,reduceIte,e12',e2',g3,g4,ab3]
 -- both behind each other
 have n0:OwN (H2++[some (.cells [] 0)]) (fun b=>H2.length≤b) 1 (.slo H2.length 0 0 0 1 true) []:=OwN.empty _ 1 H2 (Nat.le_refl _)
 have p1:=adW pa (H2++[some (.cells [] 0)])
 have q1: ∀l:List Nat,aR ((aS l).map fun c=>[c]).flatten=true:=fun l=>by rw [sF];exact jY l
 obtain ⟨w1,h3,a1,n1,m1,f1⟩:=n0.apps 6 (by_:=1) (by decide) (Q:=(aS a).map fun c=>[c]) p1.1 p1.2 ap0 (q1 a) (by simp [aS];omega)
 have p2:=adW pb h3
 obtain ⟨w2,h4,a2,n2,m2,f2⟩:=n1.apps 6 (by_:=1) (by decide) (Q:=(aS b).map fun c=>[c]) p2.1 p2.2 ap0 (q1 b) (by simp [aS];omega)
 rw [List.length_append] at m1
 simp only [List.length_cons,List.length_nil] at m1
 refine wEq (a1 _) ?_
 refine wEq (a2 _) ?_
 have old3: ∀i,i<H2.length→ae h3 i=ae H2 i:=fun i hi=>by rw [f1 i (by omega) (by rw [List.length_append];omega),aq hi]
 have old4: ∀i,i<H2.length→ae h4 i=ae H2 i:=fun i hi=>by rw [f2 i (by rw [List.length_append];simp;omega) (by omega)];exact old3 i hi
 have rw2:(([]:List (List AV))++(aS a).map fun c=>[c])++((aS b).map fun c=>[c])=(aS (a++b)).map fun c=>[c]:=by rw [List.nil_append,←List.map_append,abz]
 rw [rw2] at n2
 obtain ⟨_,bw,cap,ee,junk,yw,sw,ow⟩:=n2
 have sw3:H2.length≤bw:=by
  rcases sw with (sw|sw)|sw
  ·exact sw
  ·rw [sw,List.length_append];omega
  ·omega
 have lw:=ow.lt
 have F2:Fm H2:=F1.of F1.lt fun i hi hn=>(o2 i (by omega)).trans (fx2.2 i hi hn)
 have F4:Fm h4:=F2.of F2.lt fun i hi _=>old4 i hi
 have I4:It h4 3 dB fA:=(it2.of (o2 3 (by omega))).of (old4 3 (by omega))
 have hw:=ow.val
 have lenab:((aS (a++b)).map fun c=>[c]).length=(aS (a++b)).length:=by rw [List.length_map]
 have D4: ∀h',h4.length≤h'.length→(∀i,i<h4.length→i≠3→ae h' i=ae h4 i)→uv h'.length h' w2 (aS (a++b)):=fun h' l e=>by
  refine .inr ⟨bw,0,cap,ee,aS (a++b)++junk,yw,by rw [hw,lenab],by omega,by have:=ow.fit;rw [lenab] at this;exact this,?_,by rw [List.drop_zero,List.take_left],by simp⟩
  rw [e bw lw (by omega)]
  have:=ow.blk
  rwa [sF] at this
 have hab: ∀c∈a++b,c<256:=fun c hc=>by
  rcases List.mem_append.1 hc with hc|hc
  ·exact ha c hc
  ·exact hb c hc
 have RXY:=zW b (a.length+1) (b.length+1) a (by omega) (by omega) hX hY ((a++b).length+1) (by omega)
 refine bE (oU (mx:=mx) (h:=h4) (bv:=w2) (data:=a++b) F4 (.inr I4) (by rw [List.length_append];omega) hab (fun k hk=>by rw [hw,oG,decide_eq_true_iff];omega) (by rw [hw];exact ⟨rfl,rfl⟩) D4 30000 (by omega)).call ?_
 rintro r h5 ⟨fx5,it5,hr5⟩
 rw [RXY] at hr5
 obtain ⟨zv,rfl,rows5,ow5,lr5,hrow5⟩:=hr5
 have RZ:Rd h4.length h5 zv (X++Y):=⟨⟨rows5,ow5,lr5,hrow5⟩⟩
 have l5:=fx5.1
 simp only [iK,dC,j6,List.getElem?_cons_zero,List.getElem?_cons_succ]
 refine wEq (flt _ _ _ _ _) ?_
 obtain ⟨H6,hH6⟩: ∃H6,H6=h5++[some (.cells [N64 0,N64 0] yf)]:=⟨_,rfl⟩
 rw [←hH6]
 have l6:H6.length=h5.length+1:=by rw [hH6];simp
 have o6: ∀i,i<h5.length→ae H6 i=ae h5 i:=fun i hi=>by rw [hH6,aq hi]
 have e6:ae H6 h5.length=some (.cells [.int 9223372036854775807 0,.int 9223372036854775807 0] yf):=by rw [hH6,aI];rfl
 have f6: ∀i,i<H2.length→i≠3→ae H6 i=ae H2 i:=fun i hi hn=>by rw [o6 i (by omega),fx5.2 i (by omega) hn,old4 i hi]
 have RX6:Rd 7 H6 xv X:=RX.mono fun i hi h7=>by rw [f6 i (by omega) (by omega),o2 i (by omega),fx2.2 i (by omega) (by omega),o1 i hi]
 have RY6:Rd H1.length H6 yv Y:=RY.mono fun i hi h7=>by rw [f6 i (by omega) (by omega),o2 i hi]
 have RZ6:Rd h4.length H6 zv (X++Y):=RZ.mono fun i hi _=>o6 i hi
 obtain ⟨rX,oX,hrX⟩:=RX6.hr
 obtain ⟨rY,oY,hrY⟩:=RY6.hr
 obtain ⟨rZ,oZ,hrZ⟩:=RZ6.hr
 have kX:=adU _ _ _ ha hX
 have kY:=adU _ _ _ hb hY
 have lX:X.length≤200:=by have:=kX.2;omega
 have lY:Y.length≤200:=by have:=kY.2;omega
 have bX:=aiG _ _ _ ha hX
 have bY:=aiG _ _ _ hb hY
 have bXY:BOk (X++Y):=fun x hx=>by
  rcases List.mem_append.1 hx with hx|hx
  ·exact bX x hx
  ·exact bY x hx
 have lXY:(X++Y).length≤400:=by rw [List.length_append];omega
 clear hx hy fx1 fx2 fx5 it1 it2 it5
 -- rows of both
 have two: ∀(h:AH) (A B:List dm) (va vb:AV) (RA RB:List (List AV)) (Sa Sb:Nat→Prop),Old H6 h→OwR h Sa 4 va RA→eA H6 RA A→A.length≤400→OwR h Sb 4 vb RB→eA H6 RB B→B.length≤400→ ∀(P:Option Rs→Prop) (κ:Ka),(∀w h',Old h h'→OwN h' (fun b=>h.length≤b) 4 w (RA++RB)→P (κ w h'))→
  P (fD 4 0 [.int 9223372036854775807 0,.int 9223372036854775807 0,.int 18446744073709551615 0,.nils] [] h fun v h=>eH (42+1) 4 48 v va h fun v h=>eH (42+1) 4 48 v vb h κ):=by
  intro h A B va vb RA RB Sa Sb o oa ra la ob rb lb P κ k
  have n0:OwN (h++[some (.cells [] 0)]) (fun b=>h.length≤b) 4 (.slo h.length 0 0 0 4 true) []:=OwN.empty _ 4 h (Nat.le_refl _)
  have oa1:OwR (h++[some (.cells [] 0)]) Sa 4 va RA:=oa.mono fun b hb hs=>⟨hs,aq hb _⟩
  have ob1:OwR (h++[some (.cells [] 0)]) Sb 4 vb RB:=ob.mono fun b hb hs=>⟨hs,aq hb _⟩
  obtain ⟨w1,h1,e1,n1,m1,f1⟩:=n0.apps (42+1) (by_:=48) (by decide) (Q:=RA) oa1.elems.1 oa1.elems.2 (fun r hr=>(ra.four r hr).1) (hJ fun r hr=>(ra.four r hr).2) (by have:=ra.1;simp;omega)
  rw [List.length_append] at m1
  simp only [List.length_cons,List.length_nil] at m1
  have ff: ∀i,i<h.length→ae h1 i=ae h i:=fun i hi=>by rw [f1 i (by omega) (by rw [List.length_append];omega),aq hi]
  have ob2:OwR h1 Sb 4 vb RB:=ob.mono fun b hb hs=>⟨hs,ff b hb⟩
  obtain ⟨w2,h2,e2,n2,m2,f2⟩:=n1.apps (42+1) (by_:=48) (by decide) (Q:=RB) ob2.elems.1 ob2.elems.2 (fun r hr=>(rb.four r hr).1) (hJ fun r hr=>(rb.four r hr).2) (by have:=ra.1;have:=rb.1;simp;omega)
  refine wEq (vB _ _) ?_
  refine wEq (e1 _) ?_
  refine wEq (e2 _) ?_
  have sS: ∀b,(((fun b=>h.length≤b) b∨b=(h++[some (Blk.cells [] 0)]).length)∨b=h1.length)→h.length≤b:=fun b hs=>by
   rcases hs with (hs|hs)|hs
   ·exact hs
   ·rw [hs,List.length_append];omega
   ·omega
  refine k w2 h2 ⟨by omega,fun i hi=>?_⟩ (by rw [List.nil_append] at n2;exact n2.mono fun b _ hs=>⟨sS b hs,rfl⟩)
  rw [f2 i (by rw [List.length_append];simp;omega) (by omega)]
  exact ff i hi
 have g5:decide ((0:Int)≠0)=false:=by decide
 simp only [eE,jS,e6,j6,jd,List.getElem?_cons_zero,Nat.zero_add,cmp_eq,ineE,g5,mI,my,qe,mX,pX,qa,qc,px,bqT,bqF]
 refine two H6 X Y xv yv rX rY _ _ Old.rfl oX hrX (by omega) oY hrY (by omega) _ _ fun w h7 o7 n7=>?_
 have oZ7:OwR h7 (fun b=>h4.length≤b) 4 zv rZ:=oZ.mono fun b hb hs=>⟨hs,o7.2 b hb⟩
 have fz7:FAt h7 zv (X++Y):=FAt.yY o7 oZ7 hrZ
 have fw7:FAt h7 w (X++Y):=FAt.yY o7 n7.toR (hrX.app hrY)
 refine bE (rO (mx:=mx) fz7 fw7 bXY bXY (by omega) 30000 (by omega)).call ?_
 rintro r h8 ⟨⟨q,rfl,hq⟩,e8⟩
 rw [e8]
 clear e8
 obtain rfl:q=true:=hq.2 rfl
 simp only [qf,Bool.not_true,uO]
 -- what is found in all
 refine bE (nU (mx:=mx) o7 oZ7 hrZ (by omega) n 30000 (by omega)).call ?_
 rintro fv h8 ⟨o8,B8,ow8,hB8⟩
 have o68:=o7.trans o8
 have oZ8:OwR h8 (fun b=>h4.length≤b) 4 zv rZ:=oZ7.mono fun b hb hs=>⟨hs,o8.2 b hb⟩
 refine bE (agO (mx:=mx) o68 oZ8 hrZ (by omega) n 30000 (by omega)).call ?_
 rintro r h9 ⟨o9,q,rfl,q4,qp,hlast⟩
 have o69:=o68.trans o9
 obtain ⟨yF,hyF⟩: ∃y:Nat,y=42+1:=⟨_,rfl⟩
 obtain ⟨H9,hH9⟩: ∃H9,H9=h9++[some (.cells q yF)]:=⟨_,rfl⟩
 have st9: ∀κ:Ka,aK 4 (.pto h9.length 0) (.agg q) (h9++[some (.cells [.int 9223372036854775807 0,.int 9223372036854775807 0,.int 18446744073709551615 0,.nils] (42+1))]) κ=κ (.tup []) H9:=fun κ=>by rw [hH9,hyF];exact cY rfl q4 qp
 have e9:ae H9 h9.length=some (.cells q yF):=by rw [hH9,aI]
 have o9':Old h9 H9:=by rw [hH9];exact Old.rfl.app _
 have l9:H9.length=h9.length+1:=by rw [hH9];simp
 simp only [iK,j6,List.getElem?_cons_zero,List.getElem?_cons_succ,dC]
 refine wEq (st9 _) ?_
 refine wEq (vB _ _) ?_
 obtain ⟨G0,hG0⟩: ∃G0,G0=H9++[some (Blk.cells ([]:List AV) 0)]:=⟨_,rfl⟩
 have n0':OwN G0 (fun b=>H9.length≤b) 4 (.slo H9.length 0 0 0 4 true) []:=by rw [hG0];exact OwN.empty _ 4 H9 (Nat.le_refl _)
 rw [←hG0]
 have oG0:Old H9 G0:=by rw [hG0];exact Old.rfl.app _
 have lG0:G0.length=H9.length+1:=by rw [hG0];simp
 have oG6:=(o69.trans o9').trans oG0
 have oX0:OwR G0 (fun b=>7≤b) 4 xv rX:=oX.mono fun b hb hs=>⟨hs,oG6.2 b hb⟩
 refine bE (nU (mx:=mx) oG6 oX0 hrX (by omega) n 30000 (by omega)).call ?_
 rintro u1 G1 ⟨oG1,C1,owC1,hC1⟩
 have fl1:(bI n X).length≤X.length:=by unfold bI;exact List.length_filter_le _ _
 have fl2:(bI n Y).length≤Y.length:=by unfold bI;exact List.length_filter_le _ _
 have oG11:=oG1.1
 have n1':OwN G1 (fun b=>H9.length≤b) 4 (.slo H9.length 0 0 0 4 true) []:=n0'.mono fun b hb hs=>⟨hs,oG1.2 b hb⟩
 obtain ⟨w3,G2,a3,n2',m3,f3⟩:=n1'.apps (42+1) (by_:=48) (by decide) (Q:=C1) owC1.elems.1 owC1.elems.2 (fun r hr=>(hC1.four r hr).1) (hJ fun r hr=>(hC1.four r hr).2) (by have:=hC1.1;simp;omega)
 refine wEq (a3 _) ?_
 have oG2:Old H9 G2:=⟨by omega,fun i hi=>by rw [f3 i (by omega) (by omega),oG1.2 i (by omega),oG0.2 i hi]⟩
 have oG26:=(o69.trans o9').trans oG2
 have oY2:OwR G2 (fun b=>H1.length≤b) 4 yv rY:=oY.mono fun b hb hs=>⟨hs,oG26.2 b hb⟩
 refine bE (nU (mx:=mx) oG26 oY2 hrY (by omega) n 30000 (by omega)).call ?_
 rintro u2 G3 ⟨oG3,C2,owC2,hC2⟩
 have oG31:=oG3.1
 have n3':=n2'.mono (h':=G3) (S':=fun b=>H9.length≤b) fun b hb hs=>⟨by rcases hs with hs|hs<;>omega,oG3.2 b hb⟩
 obtain ⟨w4,G4,a4,n4',m4,f4⟩:=n3'.apps (42+1) (by_:=48) (by decide) (Q:=C2) owC2.elems.1 owC2.elems.2 (fun r hr=>(hC2.four r hr).1) (hJ fun r hr=>(hC2.four r hr).2) (by have:=hC1.1;have:=hC2.1;simp;omega)
 refine wEq (a4 _) ?_
 rw [List.nil_append] at n4'
 have oG4:Old H9 G4:=⟨by omega,fun i hi=>by rw [f4 i (by omega) (by omega),oG3.2 i (by have:=oG2.1;omega),oG2.2 i hi]⟩
 have oG46:=(o69.trans o9').trans oG4
 have hW:eA H6 (C1++C2) (bI n (X++Y)):=by
  have:=hC1.app hC2
  rwa [show bI n X++bI n Y=bI n (X++Y) by unfold bI;rw [List.filter_append]] at this
 have ow8':OwR G4 (fun b=>h7.length≤b) 4 fv B8:=ow8.mono fun b hb hs=>⟨hs,((o9.trans o9').trans oG4).2 b hb⟩
 have ff:FAt G4 fv (bI n (X++Y)):=FAt.yY oG46 ow8' hB8
 have fw:FAt G4 w4 (bI n (X++Y)):=FAt.yY oG46 n4'.toR hW
 have bF:BOk (bI n (X++Y)):=fun x hx=>bXY x ((List.mem_filter.1 hx).1)
 have lF:(bI n (X++Y)).length≤400:=by have:(bI n (X++Y)).length≤(X++Y).length:=(by unfold bI;exact List.length_filter_le _ _);omega
 refine bE (rO (mx:=mx) ff fw bF bF (by omega) 30000 (by omega)).call ?_
 rintro r G5 ⟨⟨q',rfl,hq'⟩,e5⟩
 rw [e5]
 clear e5
 obtain rfl:q'=true:=hq'.2 rfl
 have lw:=fw.len
 have g6:decide (((bI n (X++Y)).length:Int)>0)=decide (bI n (X++Y)≠[]):=by
  by_cases c:bI n (X++Y)=[]
  ·rw [c];rfl
  ·have:=List.length_pos_iff.2 c
   rw [decide_eq_true (show bI n (X++Y)≠[] from c),decide_eq_true_iff];omega
 have g6':decide (0<((bI n (X++Y)).length:Int))=decide (bI n (X++Y)≠[]):=g6
 have e9G:=(oG4.2 h9.length (by omega)).trans e9
 simp only [qf,Bool.not_true,qe,mI,my,pX,qa,qc,px,bqT,bqF,lw,n64,cmp_eq,igtE,g6,g6',ahP,mX]
 rw [decide_eq_false (fun c=>c rfl),uO]
 refine wEq (agJ ..) ?_
 by_cases hz:bI n (X++Y)=[]
 ·simp only [qf,decide_eq_false (show ¬bI n (X++Y)≠[] from fun c=>c hz),Bool.not_false,mI,my,pX,qa,qc,px,bqT,bqF,bL,Nat.le_refl,decide_true,mX,wQ,lV,kC]
  exact Ends.mk rfl
 ·obtain ⟨x,hx⟩: ∃x,(bI n (X++Y)).getLast? =some x:=⟨_,List.getLast?_eq_some_getLast hz⟩
  obtain ⟨dv,rfl,pdv,ldv,sdv⟩:=hlast x hx
  obtain ⟨vl,sl,fl⟩:=n4'.aeW oG46 hW hx 9223372036854775807
  have hpos:=List.length_pos_iff.2 hz
  have wl:aZ 9223372036854775807 (((bI n (X++Y)).length:Int)-1)=(((bI n (X++Y)).length-1:Nat):Int):=by rw [bd (by omega) (by omega)];omega
  have ld: ∀κ:Ka,aQ 4 (.pto h9.length 0) G4 κ=κ (.agg [N64 x.num,N64 x.ty,U64 x.val,dv]) G4:=fun κ=>bS (n:=4) e9G rfl κ
  obtain ⟨G6,hG6⟩: ∃G6,G6=G4++[some (Blk.cells [N64 x.num,N64 x.ty,U64 x.val,dv] 0)]:=⟨_,rfl⟩
  have o66:Old G4 G6:=by rw [hG6];exact Old.rfl.app _
  have fl6:FAt G6 vl [x]:=by
   obtain ⟨v2,sl2,fl2⟩:=(n4'.mono (h':=G6) (S':=fun b=>True) fun b hb _=>⟨trivial,o66.2 b hb⟩).aeW (oG46.trans o66) hW hx 9223372036854775807
   have:some (Rs.vh v2 [])=some (Rs.vh vl []):=by rw [show some (Rs.vh v2 [])=slS 4 w4 (some (.int 9223372036854775807 (((bI n (X++Y)).length-1:Nat):Int))) none none [] kVH from (sl2 [] kVH).symm,sl [] kVH];rfl
   simp at this
   rw [←this];exact fl2
  have fs6:FAt G6 (.slo G4.length 0 1 1 4 true) [x]:=by
   refine FAt.of (S:=fun _=>True) (rows:=[[N64 x.num,N64 x.ty,U64 x.val,dv]]) ⟨by simp,.inr ⟨G4.length,1,true,[],0,trivial,⟨rfl,by rw [hG6,aI];rfl,Nat.le_refl _,rfl⟩⟩⟩ rfl fun i r y hi hy=>?_
   obtain rfl:i=0:=by have:=(List.getElem?_eq_some_iff.1 hy).1;simpa using this
   simp at hi hy
   subst hi;subst hy
   exact ⟨dv,rfl,sdv.frm ldv (oG46.trans o66).2⟩
  have bx:BOk [x]:=fun y hy=>by
   obtain rfl:y=x:=by simpa using hy
   exact bF y (List.mem_of_getLast? hx)
  have lw': ∀(h':AH) (κ:Ka),bH w4 h' κ=κ (.int 9223372036854775807 ((bI n (X++Y)).length:Int)) h':=lw
  have gs:=rO (mx:=mx) fs6 fl6 bx bx (by simp) 30000 (by omega)
  obtain ⟨r6,h6,er,⟨q6,rfl,hq6⟩,eh⟩:=aG.call (C:=CL mx) gs
  obtain rfl:q6=true:=hq6.2 rfl
  rw [eh] at er
  simp only [qf,decide_eq_true (show bI n (X++Y)≠[] from hz),Bool.not_true,mI,my,pX,qa,qc,px,bqT,bqF,ld,amP,←hG6,qe,lw',kK,aka,wl,sl,er,oE,bL,Nat.le_refl,decide_true,mX,wQ,lV,kC]
  exact Ends.mk rfl
end
theorem uw {n:Nat}: ∀{len:Nat} {cs:List AV},TyL (TyC Tryz.prog n) (List.replicate len 5) cs→ ∃L:List Nat,cs=aS L∧L.length=len∧ ∀x∈L,x<256
 |0,cs,h=>by
  rw [show cs=[] from h]
  exact ⟨[],rfl,rfl,fun _ h=>nomatch h⟩
 |len+1,cs,h=>by
  rw [List.replicate_succ] at h
  obtain ⟨a,r,rfl,h1,h2⟩:=h
  obtain ⟨L,rfl,g2,g3⟩:=uw h2
  obtain ⟨k,rfl,wk⟩:=TyC.aob Tryz.underlying5 h1
  obtain ⟨k0,k1⟩:=Go.bounds_u8 wk
  obtain ⟨q,rfl⟩: ∃q:Nat,k=(q:Int):=⟨k.toNat,by omega⟩
  refine ⟨q::L,rfl,by simp [g2],fun x hx=>?_⟩
  rcases List.mem_cons.1 hx with rfl|hx
  ·omega
  ·exact g3 x hx
set_option maxRecDepth 100000 in
theorem vY {n:Nat} {a:AV} (t:TyC Tryz.prog n 22 [a]): ∃l:List Nat,hI a (aS l)∧ ∀x∈l,x<256:=by
 rcases TyC.acL Tryz.underlying22 t with e|e|⟨m,cs,len,e,g1,g2,g3⟩
 ·cases e;exact ⟨[],.inl ⟨rfl,.inl rfl⟩,by simp⟩
 ·cases e;exact ⟨[],.inl ⟨rfl,.inr rfl⟩,by simp⟩
 ·cases e
  obtain ⟨L,rfl,q2,q3⟩:=uw g3
  exact ⟨L,.inr (by rw [bW,q2]),q3⟩
set_option maxRecDepth 100000 in
theorem qT {W:World} {args:Array Value} {a0 a1 a2:AV} {n0 n1 n2:Nat} {mx:Int} (I:Inv (C0 mx) (· <W.heap.size) W ρ0 []) (hv:VL (· <W.heap.size) W [a0,a1,a2] ρ0 args.toList)
 (t0:TyV Tryz.prog n0 22 a0) (t1:TyV Tryz.prog n1 22 a1) (t2:TyV Tryz.prog n2 3 a2):Calls Tryz.prog 4 args W fun e w'=>e= .returned (.bool true)∧RowKit.Below W.heap.size W w':=by
 obtain ⟨n,rfl,_⟩:=TyV.aob Tryz.underlying3 t2
 obtain ⟨a,ha,da⟩:=vY (n:=n0) (a:=a0) (by unfold TyV at t0;rw [Tryz.underlying22] at t0;exact t0)
 obtain ⟨b,hb,db⟩:=vY (n:=n1) (a:=a1) (by unfold TyV at t1;rw [Tryz.underlying22] at t1;exact t1)
 obtain ⟨r,h',e,rfl⟩:=ahg (mx:=mx) n ha hb da db
 exact yR (anA asj 30001 _ _ _ _ _ e) (((I.aF (nN _ _)).aF (iY _ _)).aF (nO _ _)) hv
end Go.Proofs.YteapfopaiocpeaaGreatDoor
