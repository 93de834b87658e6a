/- The program of a protocol buffer's message, run in plain Lean: it reads just the records of the encoding's definition. -/
import Derived.Test.YteapfopaiocpeaaGreatDoorPq
namespace Go.Proofs.YteapfopaiocpeaaGreatDoor
structure dm where
 num:Nat
 ty:Nat
 val:Nat
 dat:List Nat
def stp (kind:Nat) (a b:Int) (flag:Bool) (mn mx mul add:Nat) (ways:List (Nat×Nat)):PS:=⟨kind,a,b,flag,mn,mx,mul,add,ways,[]⟩
def PP:List PS:=[
 stp 1 0 0 false 0 0 0 0 [],stp 12 4 0 false 0 0 0 0 [],stp 15 6 0 false 0 0 0 0 [],stp 11 1 0 false 0 0 0 0 [],stp 2 0 0 false 0 0 0 0 [],stp 20 0 0 false 0 0 0 0 [],
 stp 1 0 0 false 0 0 0 0 [],stp 4 0 0 true 8 4294967295 0 0 [],stp 1 0 0 false 0 0 0 0 [],stp 13 0 (-1) false 0 0 0 8 [(0,10),(1,12),(2,14),(5,19)],
 stp 4 0 1 true 0 18446744073709551615 0 0 [],stp 11 21 0 false 0 0 0 0 [],stp 3 8 2 true 0 18446744073709551615 0 0 [],stp 11 21 0 false 0 0 0 0 [],
 stp 1 0 0 false 0 0 0 0 [],stp 4 0 3 true 0 18446744073709551615 0 0 [],stp 6 3 0 false 0 0 1 0 [],stp 2 0 0 false 0 0 0 0 [],stp 11 21 0 false 0 0 0 0 [],
 stp 3 4 4 true 0 4294967295 0 0 [],stp 11 21 0 false 0 0 0 0 [],stp 2 0 0 false 0 0 0 0 [],stp 2 0 0 false 0 0 0 0 [],stp 16 0 0 false 0 0 0 0 []]
def kQ (k:Nat) (b:List Nat):Option (dm×List Nat):=
 if k%8=0 then (if (bz 0 0 b).1≠0 then none else some (⟨k/8,0,(bz 0 0 b).2.1,[]⟩,b.drop (bz 0 0 b).2.2))
 else if k%8=1 then (if b.length<8 then none else some (⟨k/8,1,ny true (b.take 8),[]⟩,b.drop 8))
 else if k%8=2 then (if (bz 0 0 b).1≠0∨b.length-(bz 0 0 b).2.2<(bz 0 0 b).2.1 then none else some (⟨k/8,2,0,(b.drop (bz 0 0 b).2.2).take (bz 0 0 b).2.1⟩,(b.drop (bz 0 0 b).2.2).drop (bz 0 0 b).2.1))
 else if k%8=5 then (if b.length<4 then none else some (⟨k/8,5,ny true (b.take 4),[]⟩,b.drop 4))
 else none
def fg (b:List Nat):Option (dm×List Nat):=
 if (bz 0 0 b).1≠0∨(bz 0 0 b).2.1<8∨4294967295<(bz 0 0 b).2.1 then none else kQ (bz 0 0 b).2.1 (b.drop (bz 0 0 b).2.2)
def c7:Nat→List Nat→Option (List dm)
 |0,_=>some []
 |k+1,b=>if b=[] then some [] else match fg b with
  |none=>none
  |some (x,r)=>(c7 k r).map (x:: ·)
def lf (n:Nat):PT:=.nd n false [] []
def qh (x:dm):PT:=.nd 0 false [] [lf (x.num*8+x.ty),.nd 0 false [] [if x.ty=2 then .nd 0 false [] [lf x.dat.length,.nd 0 false x.dat []] else lf x.val]]
theorem aq5 {v:Nat×Nat×Nat} {x m:Nat} (h0:v.1=0) (hx:x=v.2.1) (hm:m=v.2.2):v=(0,x,m):=by rw [hx,hm,←h0]
theorem gM: ∀(l:List Nat) (acc cnt:Nat),cnt≤9→acc<128^cnt→(bz acc cnt l).1=0→(bz acc cnt l).2.1<18446744073709551616∧cnt<(bz acc cnt l).2.2∧(bz acc cnt l).2.2≤cnt+l.length
 |[],acc,cnt,_,_,h=>by simp [bz] at h
 |c::r,acc,cnt,hc,ha,h=>by
  have hdec:bz acc cnt (c::r)=if cnt=9∧1<c then (20,0,0) else if c<128 then (0,acc+c%128*128^cnt,cnt+1) else bz (acc+c%128*128^cnt) (cnt+1) r:=by rw [bz]
  have h9:128^cnt≤128^9:=Nat.pow_le_pow_right (by decide) hc
  have hm:c%128<128:=Nat.mod_lt _ (by decide)
  have hs:acc+c%128*128^cnt<128^(cnt+1):=by
   have:c%128*128^cnt≤127*128^cnt:=Nat.mul_le_mul_right _ (by omega)
   rw [Nat.pow_succ];omega
  rw [hdec] at h ⊢
  by_cases h1:cnt=9∧1<c
  ·rw [if_pos h1] at h;simp at h
  ·rw [if_neg h1] at h ⊢
   by_cases h2:c<128
   ·rw [if_pos h2]
    refine ⟨?_,Nat.lt_succ_self _,by simp⟩
    show acc+c%128*128^cnt<_
    by_cases e9:cnt=9
    ·subst e9
     have:c%128*128^9≤1*128^9:=Nat.mul_le_mul_right _ (by omega)
     have e:(128:Nat)^9=9223372036854775808:=by decide
     omega
    ·have:128^(cnt+1)≤128^9:=Nat.pow_le_pow_right (by decide) (by omega)
     have e:(128:Nat)^9=9223372036854775808:=by decide
     omega
   ·rw [if_neg h2] at h ⊢
    have e9:cnt≠9:=fun c9=>h1 ⟨c9,by omega⟩
    obtain ⟨a1,a2,a3⟩:=gM r (acc+c%128*128^cnt) (cnt+1) (by omega) hs h
    refine ⟨a1,by omega,?_⟩
    simp only [List.length_cons]
    omega
theorem adM: ∀(l:List Nat) (acc:Nat),(∀b∈l,b<256)→l.foldl (fun n c=>n*256+c) acc<(acc+1)*256^l.length
 |[],acc,_=>by simp
 |c::r,acc,h=>by
  have hc:c<256:=h c (List.mem_cons_self ..)
  have ih:=adM r (acc*256+c) fun b hb=>h b (List.mem_cons_of_mem _ hb)
  rw [List.foldl_cons,List.length_cons,Nat.pow_succ]
  refine Nat.lt_of_lt_of_le ih ?_
  rw [Nat.mul_comm (256^r.length),←Nat.mul_assoc]
  exact Nat.mul_le_mul_right _ (by omega)
theorem qC {l:List Nat} (h: ∀b∈l,b<256) (f:Bool):ny f l<256^l.length:=by
 have:=adM (if f then l.reverse else l) 0 (by cases f<;>simpa using h)
 unfold ny beN
 cases f<;>simpa using this
section
variable {c:PC} {a l p:Nat} {sl:List Nat} {ks:List PT} {R:List PT} {ct cl:List Nat}
theorem aaZ {sl:List Nat} {x i:Nat} (h: ∀y∈sl,y<18446744073709551616) (hx:x<18446744073709551616): ∀y∈sl.set i x,y<18446744073709551616:=fun y hy=>by
 rcases List.mem_or_eq_of_mem_set hy with hy|rfl
 ·exact h y hy
 ·exact hx
theorem am1 (O:Ok c) (hb: ∀b∈c.data,b<256) (h1:a≤c.data.length) (h2:l≤c.data.length) (h3:p+7≤c.tokens) (h4:R.length+7≤c.depth) (h5:sl.length=5) (h6: ∀x∈sl,x<18446744073709551616) (h7:ks.length≤80000) (h8:cl.length≤90000):
 match fg (c.data.drop a) with
 |none=>∃t j,j≤14∧cq c PP 6 (PR.mk0 a l p sl (.nd 0 false [] ks::R) ct (3::cl)) t j∧t.code≠0∧t.at_≤c.data.length
 |some (x,r)=>∃m l' k j sl',r=c.data.drop (a+m)∧1≤m∧a+m≤c.data.length∧l'≤c.data.length∧k≤6∧j≤14∧sl'.length=5∧(∀x∈sl',x<18446744073709551616)∧
  ∀t n,cq c PP 3 (PR.mk0 (a+m) l' (p+k) sl' (.nd 0 false [] (ks++[qh x])::R) ct cl) t n→cq c PP 6 (PR.mk0 a l p sl (.nd 0 false [] ks::R) ct (3::cl)) t (n+j):=by
 have small: ∀{x:Nat} {ks:List PT},ks.length≤90000→ ∀n b d ks',PT.nd x false [] ks= .nd n b d ks'→ks'.length≤90000∧d=[]:=fun h n b d ks' e=>by cases e;exact ⟨h,rfl⟩
 have w: ∀(a l p:Nat) (st:List PT),a≤c.data.length→l≤c.data.length→p+1≤c.tokens→st.length≤c.depth→Wg c a l p st:=fun _ _ _ _ a b c d=>⟨a,b,c,d⟩
 have g7:PP[7]? =some (stp 4 0 0 true 8 4294967295 0 0 []):=rfl
 have beg: ∀{t n},cq c PP 7 (PR.mk0 a l (p+1) sl (.nd 0 false [] []:: .nd 0 false [] ks::R) ct (3::cl)) t n→cq c PP 6 (PR.mk0 a l p sl (.nd 0 false [] ks::R) ct (3::cl)) t (n+1):=fun r=>tF O (w _ _ _ _ h1 h2 (by omega) (by simp;omega)) (q:=stp 1 0 0 false 0 0 0 0 []) rfl rfl r
 have w7:Wg c a l (p+1) (.nd 0 false [] []:: .nd 0 false [] ks::R):=w _ _ _ _ h1 h2 (by omega) (by simp;omega)
 have hd:(c.data.drop a).length=c.data.length-a:=by simp
 unfold fg
 by_cases hk:(bz 0 0 (c.data.drop a)).1≠0∨(bz 0 0 (c.data.drop a)).2.1<8∨4294967295<(bz 0 0 (c.data.drop a)).2.1
 ·rw [if_pos hk]
  obtain ⟨t,r,b1,b2⟩:=oL (ct:=ct) (cl:=3::cl) O w7 g7 rfl rfl (by show (0:Int)<_;rw [h5];decide) (small (by simp)) (by
   rcases hk with hk|hk
   ·exact .inl hk
   ·exact .inr (by show ¬(8≤_∧_≤4294967295);omega))
  exact ⟨t,2,by decide,beg r,b1,b2⟩
 rw [if_neg hk]
 obtain ⟨x,hx⟩: ∃x,x=(bz 0 0 (c.data.drop a)).2.1:=⟨_,rfl⟩
 obtain ⟨m,hm⟩: ∃m,m=(bz 0 0 (c.data.drop a)).2.2:=⟨_,rfl⟩
 have hv0:(bz 0 0 (c.data.drop a)).1=0:=by omega
 have hv:bz 0 0 (c.data.drop a)=(0,x,m):=aq5 hv0 hx hm
 obtain ⟨_,m1,m2⟩:=gM (c.data.drop a) 0 0 (by decide) (by decide) hv0
 rw [←hx] at hk
 rw [←hm] at m1 m2
 rw [hd] at m2
 rw [←hx,←hm,List.drop_drop]
 have hxr:8≤x∧x≤4294967295:=by omega
 have sx: ∀y∈sl.set 0 x,y<18446744073709551616:=aaZ h6 (by omega)
 have lx:(sl.set 0 x).length=5:=by rw [List.length_set];exact h5
 -- to the switch
 have a1:a+m≤c.data.length:=by omega
 have sw: ∀{t n},cq c PP 9 (PR.mk0 (a+m) a (p+3) (sl.set 0 x) (.nd 0 false [] []:: .nd 0 false [] [lf x]:: .nd 0 false [] ks::R) ct (3::cl)) t n→cq c PP 6 (PR.mk0 a l p sl (.nd 0 false [] ks::R) ct (3::cl)) t (n+3):=fun r=>
  beg (ac3 (ct:=ct) (cl:=3::cl) O w7 g7 rfl rfl (by decide) (by show (0:Int)<_;rw [h5];decide) (small (by simp)) hv hxr
   (tF O (w _ _ _ _ a1 h1 (by omega) (by simp;omega)) (q:=stp 1 0 0 false 0 0 0 0 []) rfl rfl r))
 have w9:Wg c (a+m) a (p+3) (.nd 0 false [] []:: .nd 0 false [] [lf x]:: .nd 0 false [] ks::R):=w _ _ _ _ a1 h1 (by omega) (by simp;omega)
 have g9:PP[9]? =some (stp 13 0 (-1) false 0 0 0 8 [(0,10),(1,12),(2,14),(5,19)]):=rfl
 have v9:(if (stp 13 0 (-1) false 0 0 0 8 [(0,10),(1,12),(2,14),(5,19)]).add=0 then (sl.set 0 x).getD (stp 13 0 (-1) false 0 0 0 8 [(0,10),(1,12),(2,14),(5,19)]).a.toNat 0 else (sl.set 0 x).getD (stp 13 0 (-1) false 0 0 0 8 [(0,10),(1,12),(2,14),(5,19)]).a.toNat 0%(stp 13 0 (-1) false 0 0 0 8 [(0,10),(1,12),(2,14),(5,19)]).add)=x%8:=by
  show (sl.set 0 x).getD 0 0%8=x%8
  rw [List.getD_eq_getElem?_getD,List.getElem?_set_self (by omega)];rfl
 have pick: ∀{w:Nat×Nat} {t n},[(0,10),(1,12),(2,14),(5,19)].find? (fun w:Nat×Nat=>w.1=x%8)=some w→cq c PP w.2 (PR.mk0 (a+m) a (p+3) (sl.set 0 x) (.nd 0 false [] []:: .nd 0 false [] [lf x]:: .nd 0 false [] ks::R) ct (3::cl)) t n→cq c PP 6 (PR.mk0 a l p sl (.nd 0 false [] ks::R) ct (3::cl)) t (n+4):=fun hf r=>
  sw (an2 O w9 g9 rfl (by decide) (by decide) (by rw [lx];decide) sx v9 hf r)
 -- the end
 have fin: ∀{a' l' p':Nat} {sl':List Nat} {y:PT} {t:PR} {n:Nat},a'≤c.data.length→l'≤c.data.length→p'+1≤c.tokens→cq c PP 3 (PR.mk0 a' l' p' sl' (.nd 0 false [] (ks++[.nd 0 false [] [lf x,.nd 0 false [] [y]]])::R) ct cl) t n→cq c PP 21 (PR.mk0 a' l' p' sl' (.nd 0 false [] [y]:: .nd 0 false [] [lf x]:: .nd 0 false [] ks::R) ct (3::cl)) t (n+3):=fun ha hl hp r=>
  pY (q:=stp 2 0 0 false 0 0 0 0 []) O (w _ _ _ _ ha hl hp (by simp;omega)) rfl rfl (small (by simp)) (pY (q:=stp 2 0 0 false 0 0 0 0 []) O (w _ _ _ _ ha hl hp (by simp;omega)) rfl rfl (small (by omega)) (aq9 (q:=stp 16 0 0 false 0 0 0 0 []) O (w _ _ _ _ ha hl hp (by simp;omega)) rfl rfl (by simp;omega) r))
 have hd2:(c.data.drop (a+m)).length=c.data.length-(a+m):=by simp
 have hn: ∀k:Nat,∀b∈(c.data.drop (a+m)).take k,b<256:=fun k b hb'=>hb b (List.mem_of_mem_drop (List.mem_of_mem_take hb'))
 unfold kQ
 by_cases k0:x%8=0
 ·rw [if_pos k0]
  have pk: ∀{t n},cq c PP 10 _ t n→_:=fun {t n} r=>pick (w:=(0,10)) (t:=t) (n:=n) (by rw [k0];rfl) r
  have g10:PP[10]? =some (stp 4 0 1 true 0 18446744073709551615 0 0 []):=rfl
  by_cases hu:(bz 0 0 (c.data.drop (a+m))).1≠0
  ·rw [if_pos hu]
   obtain ⟨t,r,b1,b2⟩:=oL (ct:=ct) (cl:=3::cl) (sl:=sl.set 0 x) O w9 g10 rfl rfl (by rw [lx];decide) (small (by simp)) (.inl hu)
   exact ⟨t,5,by decide,pk r,b1,b2⟩
  ·rw [if_neg hu]
   have hu0:(bz 0 0 (c.data.drop (a+m))).1=0:=by omega
   obtain ⟨u1,u2,u3⟩:=gM (c.data.drop (a+m)) 0 0 (by decide) (by decide) hu0
   rw [hd2] at u3
   refine ⟨m+(bz 0 0 (c.data.drop (a+m))).2.2,a+m,4,9,(sl.set 0 x).set 1 (bz 0 0 (c.data.drop (a+m))).2.1,by rw [List.drop_drop,Nat.add_assoc],by omega,by omega,by omega,by decide,by decide,by simp [h5],aaZ sx u1,fun t n r=>?_⟩
   refine pk (ac3 (ct:=ct) (cl:=3::cl) O w9 g10 rfl rfl (by decide) (by rw [lx];decide) (small (by simp)) (x:=(bz 0 0 (c.data.drop (a+m))).2.1) (m:=(bz 0 0 (c.data.drop (a+m))).2.2) (aq5 hu0 rfl rfl) (by show 0≤_∧_≤18446744073709551615;omega) ?_)
   refine qz (q:=stp 11 21 0 false 0 0 0 0 []) O (w _ _ _ _ (by omega) (by omega) (by omega) (by simp;omega)) rfl rfl (j:=21) rfl ?_
   refine fin (by omega) (by omega) (by omega) ?_
   unfold qh at r
   simp only [show x/8*8+0=x by omega] at r
   rw [←Nat.add_assoc] at r
   exact r
 rw [if_neg k0]
 by_cases k1:x%8=1
 ·rw [if_pos k1]
  have pk: ∀{t n},cq c PP 12 _ t n→_:=fun {t n} r=>pick (w:=(1,12)) (t:=t) (n:=n) (by rw [k1];rfl) r
  have g12:PP[12]? =some (stp 3 8 2 true 0 18446744073709551615 0 0 []):=rfl
  have l8:=qC (hn 8) true
  by_cases hu:(c.data.drop (a+m)).length<8
  ·rw [if_pos hu]
   obtain ⟨t,r,b1,b2⟩:=vn (ct:=ct) (cl:=3::cl) (sl:=sl.set 0 x) O w9 g12 rfl (m:=8) rfl (by decide) (by decide) (by rw [lx];decide) (small (by simp)) (.inl (by omega))
   exact ⟨t,5,by decide,pk r,b1,b2⟩
  ·rw [if_neg hu]
   have e8:((c.data.drop (a+m)).take 8).length=8:=by rw [List.length_take];omega
   rw [e8] at l8
   refine ⟨m+8,a+m,4,9,(sl.set 0 x).set 2 (ny true ((c.data.drop (a+m)).take 8)),by rw [List.drop_drop,Nat.add_assoc],by omega,by omega,by omega,by decide,by decide,by simp [h5],aaZ sx l8,fun t n r=>?_⟩
   refine pk (aiH (ct:=ct) (cl:=3::cl) O w9 g12 rfl (m:=8) rfl (by decide) (by decide) (by decide) (by rw [lx];decide) (small (by simp)) (by omega) rfl ⟨Nat.zero_le _,Nat.le_of_lt_succ l8⟩ ?_)
   refine qz (q:=stp 11 21 0 false 0 0 0 0 []) O (w _ _ _ _ (by omega) (by omega) (by omega) (by simp;omega)) rfl rfl (j:=21) rfl ?_
   refine fin (by omega) (by omega) (by omega) ?_
   unfold qh at r
   simp only [show x/8*8+1=x by omega] at r
   rw [←Nat.add_assoc] at r
   exact r
 rw [if_neg k1]
 by_cases k2:x%8=2
 ·rw [if_pos k2]
  have g15:PP[15]? =some (stp 4 0 3 true 0 18446744073709551615 0 0 []):=rfl
  have g16:PP[16]? =some (stp 6 3 0 false 0 0 1 0 []):=rfl
  have pk: ∀{t n},cq c PP 15 (PR.mk0 (a+m) a (p+4) (sl.set 0 x) (.nd 0 false [] []:: .nd 0 false [] []:: .nd 0 false [] [lf x]:: .nd 0 false [] ks::R) ct (3::cl)) t n→cq c PP 6 (PR.mk0 a l p sl (.nd 0 false [] ks::R) ct (3::cl)) t (n+5):=fun {t n} r=>
   pick (w:=(2,14)) (by rw [k2];rfl) (tF (q:=stp 1 0 0 false 0 0 0 0 []) O w9 rfl rfl r)
  have w15:Wg c (a+m) a (p+4) (.nd 0 false [] []:: .nd 0 false [] []:: .nd 0 false [] [lf x]:: .nd 0 false [] ks::R):=w _ _ _ _ a1 h1 (by omega) (by simp;omega)
  by_cases hu:(bz 0 0 (c.data.drop (a+m))).1≠0
  ·rw [if_pos (.inl hu)]
   obtain ⟨t,r,b1,b2⟩:=oL (ct:=ct) (cl:=3::cl) (sl:=sl.set 0 x) O w15 g15 rfl rfl (by rw [lx];decide) (small (by simp)) (.inl hu)
   exact ⟨t,6,by decide,pk r,b1,b2⟩
  ·have hu0:(bz 0 0 (c.data.drop (a+m))).1=0:=by omega
   obtain ⟨u1,u2,u3⟩:=gM (c.data.drop (a+m)) 0 0 (by decide) (by decide) hu0
   rw [hd2] at u3
   obtain ⟨y,hy⟩: ∃y,y=(bz 0 0 (c.data.drop (a+m))).2.1:=⟨_,rfl⟩
   obtain ⟨z,hz⟩: ∃z,z=(bz 0 0 (c.data.drop (a+m))).2.2:=⟨_,rfl⟩
   rw [←hy] at u1 ⊢
   rw [←hz] at u2 u3 ⊢
   have sy: ∀q∈(sl.set 0 x).set 3 y,q<18446744073709551616:=aaZ sx u1
   have ly:((sl.set 0 x).set 3 y).length=5:=by simp [h5]
   have pk2: ∀{t n},cq c PP 16 (PR.mk0 (a+m+z) (a+m) (p+5) ((sl.set 0 x).set 3 y) (.nd 0 false [] [lf y]:: .nd 0 false [] []:: .nd 0 false [] [lf x]:: .nd 0 false [] ks::R) ct (3::cl)) t n→cq c PP 6 (PR.mk0 a l p sl (.nd 0 false [] ks::R) ct (3::cl)) t (n+6):=fun {t n} r=>
    pk (ac3 (ct:=ct) (cl:=3::cl) O w15 g15 rfl rfl (by decide) (by rw [lx];decide) (small (by simp)) (x:=y) (m:=z) (aq5 hu0 hy hz) (by show 0≤_∧_≤18446744073709551615;omega) r)
   have w16:Wg c (a+m+z) (a+m) (p+5) (.nd 0 false [] [lf y]:: .nd 0 false [] []:: .nd 0 false [] [lf x]:: .nd 0 false [] ks::R):=w _ _ _ _ (by omega) (by omega) (by omega) (by simp;omega)
   have pm:ah6 (stp 6 3 0 false 0 0 1 0 []) (PR.mk0 (a+m+z) (a+m) (p+5) ((sl.set 0 x).set 3 y) (.nd 0 false [] [lf y]:: .nd 0 false [] []:: .nd 0 false [] [lf x]:: .nd 0 false [] ks::R) ct (3::cl)):=.inr ⟨by show (3:Int)<(((sl.set 0 x).set 3 y).length:Int);rw [ly];decide,rfl,rfl,sy⟩
   have hmn:(if (stp 6 3 0 false 0 0 1 0 []).a<0 then (stp 6 3 0 false 0 0 1 0 []).add else ((sl.set 0 x).set 3 y).getD (stp 6 3 0 false 0 0 1 0 []).a.toNat 0)=y:=by
    show ((sl.set 0 x).set 3 y).getD 3 0=y
    rw [List.getD_eq_getElem?_getD,List.getElem?_set_self (by rw [lx];decide)];rfl
   by_cases hl:(c.data.drop (a+m)).length-z<y
   ·rw [if_pos (.inr hl)]
    obtain ⟨t,r,b1,b2⟩:=zN (ct:=ct) (cl:=3::cl) O w16 g16 rfl pm hmn (by omega) (small (by simp))
    exact ⟨t,7,by decide,pk2 r,b1,b2⟩
   ·rw [if_neg (fun cc=>cc.elim hu hl)]
    have ed:(c.data.drop (a+m)).drop z=c.data.drop (a+m+z):=by rw [List.drop_drop]
    refine ⟨m+z+y,a+m,6,12,(sl.set 0 x).set 3 y,by rw [ed,List.drop_drop,Nat.add_assoc,Nat.add_assoc,←Nat.add_assoc m],by omega,by omega,by omega,by decide,by decide,ly,sy,fun t n r=>?_⟩
    refine pk2 (am6 (ct:=ct) (cl:=3::cl) O w16 g16 rfl pm hmn (by omega) (small (by simp)) ?_)
    refine pY (q:=stp 2 0 0 false 0 0 0 0 []) O (w _ _ _ _ (by omega) (by omega) (by omega) (by simp;omega)) rfl rfl (small (by simp)) ?_
    refine qz (q:=stp 11 21 0 false 0 0 0 0 []) O (w _ _ _ _ (by omega) (by omega) (by omega) (by simp;omega)) rfl rfl (j:=21) rfl ?_
    refine fin (by omega) (by omega) (by omega) ?_
    unfold qh at r
    have e2:((c.data.drop (a+m+z)).take y).length=y:=by rw [List.length_take,List.length_drop];omega
    simp only [show x/8*8+2=x by omega,ed,e2,if_true] at r
    rw [show a+(m+z+y)=a+m+z+y by omega] at r
    exact r
 rw [if_neg k2]
 by_cases k5:x%8=5
 ·rw [if_pos k5]
  have pk: ∀{t n},cq c PP 19 _ t n→_:=fun {t n} r=>pick (w:=(5,19)) (t:=t) (n:=n) (by rw [k5];rfl) r
  have g19:PP[19]? =some (stp 3 4 4 true 0 4294967295 0 0 []):=rfl
  have l8:=qC (hn 4) true
  by_cases hu:(c.data.drop (a+m)).length<4
  ·rw [if_pos hu]
   obtain ⟨t,r,b1,b2⟩:=vn (ct:=ct) (cl:=3::cl) (sl:=sl.set 0 x) O w9 g19 rfl (m:=4) rfl (by decide) (by decide) (by rw [lx];decide) (small (by simp)) (.inl (by omega))
   exact ⟨t,5,by decide,pk r,b1,b2⟩
  ·rw [if_neg hu]
   have e8:((c.data.drop (a+m)).take 4).length=4:=by rw [List.length_take];omega
   rw [e8] at l8
   refine ⟨m+4,a+m,4,9,(sl.set 0 x).set 4 (ny true ((c.data.drop (a+m)).take 4)),by rw [List.drop_drop,Nat.add_assoc],by omega,by omega,by omega,by decide,by decide,by simp [h5],aaZ sx (Nat.lt_trans l8 (by decide)),fun t n r=>?_⟩
   refine pk (aiH (ct:=ct) (cl:=3::cl) O w9 g19 rfl (m:=4) rfl (by decide) (by decide) (by decide) (by rw [lx];decide) (small (by simp)) (by omega) rfl ⟨Nat.zero_le _,Nat.le_of_lt_succ l8⟩ ?_)
   refine qz (q:=stp 11 21 0 false 0 0 0 0 []) O (w _ _ _ _ (by omega) (by omega) (by omega) (by simp;omega)) rfl rfl (j:=21) rfl ?_
   refine fin (by omega) (by omega) (by omega) ?_
   unfold qh at r
   simp only [show x/8*8+5=x by omega] at r
   rw [←Nat.add_assoc] at r
   exact r
 rw [if_neg k5]
 have hno:[(0,10),(1,12),(2,14),(5,19)].find? (fun w:Nat×Nat=>w.1=x%8)=none:=by
  simp [List.find?,Ne.symm k0,Ne.symm k1,Ne.symm k2,Ne.symm k5]
 obtain ⟨t,r,b1,b2⟩:=abN (ct:=ct) (cl:=3::cl) O w9 g9 rfl (by decide) (by decide) (by rw [lx];decide) sx v9 hno (by decide)
 exact ⟨t,4,by decide,sw r,b1,b2⟩
theorem abe (O:Ok c) (hb: ∀b∈c.data,b<256) (hlen:c.data.length≤10000) (htok:100000≤c.tokens) (hdep:20≤c.depth): ∀(k a l p:Nat) (sl:List Nat) (ks:List PT),c.data.length-a<k→a≤c.data.length→l≤c.data.length→p≤1+6*a→sl.length=5→(∀x∈sl,x<18446744073709551616)→ks.length≤a→
 ∃t n,n≤3+17*(c.data.length-a)∧cq c PP 1 (PR.mk0 a l p sl [.nd 0 false [] ks,.nd 0 false [] []] [] []) t n∧t.at_≤c.data.length∧match c7 k (c.data.drop a) with
  |none=>t.code≠0
  |some L=>t.code=0∧t.at_=c.data.length∧t.stack=[.nd 0 false [] [.nd 0 false [] (ks++L.map qh)]]
 |0,a,l,p,sl,ks,hk,_,_,_,_,_,_=>by omega
 |k+1,a,l,p,sl,ks,hk,h1,h2,hp,h5,h6,h7=>by
  have w: ∀(a l p:Nat) (st:List PT),a≤c.data.length→l≤c.data.length→p+1≤c.tokens→st.length≤c.depth→Wg c a l p st:=fun _ _ _ _ a b c d=>⟨a,b,c,d⟩
  have g1:PP[1]? =some (stp 12 4 0 false 0 0 0 0 []):=rfl
  have W1:Wg c a l p [.nd 0 false [] ks,.nd 0 false [] []]:=w _ _ _ _ h1 h2 (by omega) (by show 2≤_;omega)
  unfold c7
  by_cases ha:a=c.data.length
  ·have hd:c.data.drop a=[]:=List.drop_eq_nil_iff.2 (by omega)
   rw [if_pos hd]
   refine ⟨PR.mk0 a l p sl [.nd 0 false [] [.nd 0 false [] ks]] [] [],3,by omega,?_,h1,rfl,ha,by rw [List.map_nil,List.append_nil];rfl⟩
   exact abj O W1 g1 rfl (j:=4) rfl ha (pY (q:=stp 2 0 0 false 0 0 0 0 []) O W1 rfl rfl (fun n b d ks' e=>by cases e;exact ⟨by simp,rfl⟩)
    (aqG (q:=stp 20 0 0 false 0 0 0 0 []) O (w _ _ _ _ h1 h2 (by omega) (by show 1≤_;omega)) rfl rfl))
  ·have hd:c.data.drop a≠[]:=fun cc=>ha (by have:=List.drop_eq_nil_iff.1 cc;omega)
   rw [if_neg hd]
   have beg: ∀{t n},cq c PP 6 (PR.mk0 a l p sl [.nd 0 false [] ks,.nd 0 false [] []] [] [3]) t n→cq c PP 1 (PR.mk0 a l p sl [.nd 0 false [] ks,.nd 0 false [] []] [] []) t (n+2):=fun r=>
    aoB O W1 g1 rfl (by decide) (by omega) (aoG (q:=stp 15 6 0 false 0 0 0 0 []) O W1 rfl rfl (j:=6) rfl (by simp) r)
   have H:=am1 (ct:=[]) (cl:=[]) (R:=[.nd 0 false [] []]) (ks:=ks) O hb h1 h2 (by omega) (by show 1+7≤_;omega) h5 h6 (p:=p) (l:=l) (by omega) (by simp)
   cases e:fg (c.data.drop a) with
   |none=>
    rw [e] at H
    obtain ⟨t,j,hj,r,b1,b2⟩:=H
    exact ⟨t,j+2,by omega,beg r,b2,b1⟩
   |some xr=>
    obtain ⟨x,r⟩:=xr
    rw [e] at H
    obtain ⟨m,l',kk,j,sl',er,m1,m2,hl',hkk,hj,h5',h6',H⟩:=H
    obtain ⟨t,n,hn,r',b1,b2⟩:=abe O hb hlen htok hdep k (a+m) l' (p+kk) sl' (ks++[qh x]) (by omega) m2 hl' (by omega) h5' h6' (by rw [List.length_append];simp;omega)
    refine ⟨t,n+1+j+2,by omega,beg (H t _ (qz (q:=stp 11 1 0 false 0 0 0 0 []) O (w _ _ _ _ m2 hl' (by omega) (by show 2≤_;omega)) rfl rfl (j:=1) rfl r')),b1,?_⟩
    show match (c7 k r).map (x:: ·) with|none=>_|some L=>_
    rw [er]
    cases e2:c7 k (c.data.drop (a+m)) with
    |none=>rw [e2] at b2;exact b2
    |some L=>
     rw [e2] at b2
     refine ⟨b2.1,b2.2.1,?_⟩
     rw [b2.2.2];simp
theorem aqf (O:Ok c) (hb: ∀b∈c.data,b<256) (hlen:c.data.length≤10000) (htok:100000≤c.tokens) (hdep:20≤c.depth):
 ∃t n,n≤10+17*c.data.length∧cq c PP 0 (PR.init 5) t n∧t.at_≤c.data.length∧match c7 (c.data.length+1) c.data with
  |none=>(t.rest c).code≠0
  |some L=>(t.rest c).code=0∧t.stack=[.nd 0 false [] [.nd 0 false [] (L.map qh)]]:=by
 obtain ⟨t,n,hn,r,b1,b2⟩:=abe O hb hlen htok hdep (c.data.length+1) 0 0 1 [0,0,0,0,0] [] (by omega) (Nat.zero_le _) (Nat.zero_le _) (by omega) rfl (by simp) (by simp)
 refine ⟨t,n+1,by omega,tF (q:=stp 1 0 0 false 0 0 0 0 []) O ⟨Nat.zero_le _,Nat.zero_le _,by omega,by show 1≤_;omega⟩ rfl rfl r,b1,?_⟩
 rw [List.drop_zero] at b2
 cases e:c7 (c.data.length+1) c.data with
 |none=>
  rw [e] at b2
  show (t.rest c).code≠0
  unfold PR.rest
  rw [if_neg (fun cc=>b2 cc.1)];exact b2
 |some L=>
  rw [e] at b2
  refine ⟨?_,by simpa using b2.2.2⟩
  unfold PR.rest
  rw [if_neg (by omega)];exact b2.1
end
end Go.Proofs.YteapfopaiocpeaaGreatDoor
