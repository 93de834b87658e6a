/- Calls, regions, and regions that draw their order. -/
import Derived.Test.YtemmgalfdmnkoaaGreatDoorMB
namespace Go.Proofs.YtemmgalfdmnkoaaGreatDoor
set_option linter.unusedSimpArgs false
set_option linter.unusedVariables false
set_option linter.unnecessarySimpa false
section
variable {P:Program} {C:Cx} {ok:Nat→Prop} {w:World} {ρ:Rho} {h:AH} {κ:Ka} {rs:Rs} {o:Oper} {a:Act} {run:Run}
theorem tK (I:Inv C ok w ρ h) {ok1:Nat→Prop} {w1:World} {ρ1:Rho} {h1:AH} (E:Ext ok w ρ0 [] ok1 w1 ρ1 h1) (I1:Inv C ok1 w1 ρ1 h1) {ok2:Nat→Prop} (k1: ∀r,ok1 r→ok2 r) (k2: ∀r,ok2 r→ok1 r∨(w.heap.size≤r∧r<w1.heap.size)):
 Ext ok w ρ h ok2 w1 ρ h∧Inv C ok2 w1 ρ h:=by
 have none': ∀n,¬(ab ([]:AH) n≠none):=fun n hn=>hn (by simp [ab,dQ])
 have keep: ∀r,r<w.heap.size→w1.heap[r]? =w.heap[r]? :=fun r hr=>E.keep r hr (fun n hn=>absurd hn (none' n))
 have new: ∀r,ok2 r→ok r∨w.heap.size≤r:=by
  intro r hr;rcases k2 r hr with hr|hr
  ·rcases E.oknew r hr with hr|hr|⟨m,hm,_⟩
   ·exact .inl hr
   ·exact .inr hr
   ·exact absurd hm (none' m)
  ·exact .inr hr.1
 have U:Up ok w ρ ok2 w1 ρ:=⟨E.up.okb,fun r hr=>k1 r (E.up.oku r hr),E.up.shp,fun _ _ h=>h⟩;refine ⟨⟨U,E.size,E.os,E.tape,E.output,A9 _,fun r hr _=>keep r hr,fun r hr=>(new r hr).imp id .inl,fun _ _ h=>h,fun _ _ h=>.inl h⟩,⟨?_,?_,?_,I.inj,?_⟩⟩
 ·intro r hr
  rcases k2 r hr with hr|hr
  ·exact I1.okb r hr
  ·exact hr.2
 ·intro n r e
  have:=I.dom n r e
  exact ⟨this.1,Bm this.2 E.size⟩
 ·intro n b e
  obtain ⟨r,e1,e2,e3⟩:=I.live n b e;have hr:=(I.dom n r e1).2;refine ⟨r,e1,fun hk=>?_,e3.up U (keep r hr)⟩;rcases new r hk with hk|hk
  ·exact e2 hk
  ·omega
 ·intro g cs e
  obtain ⟨g1,g2⟩:=I1.gl g cs e;exact ⟨k1 g g1,VAt.up cs ⟨fun _ _=>rfl,k1,fun _ _ h=>h,fun _ _ h=>h⟩ rfl g2⟩
theorem qI {ok1:Nat→Prop} {w1:World} {ρ1:Rho} {h1:AH} (E:Ext ok w ρ0 [] ok1 w1 ρ1 h1) {n r:Nat} (e:ρ1 n=some r):w.heap.size≤r:=by
 rcases E.rnew n r e with e|⟨_,⟨m,hm,_⟩|e⟩
 ·cases e
 ·exact absurd (by simp [ab,dQ]) hm
 ·exact e
theorem abR (k:Nat) (h:AH) (n:Nat):ab (dc (wj k) h) n=wj k (ab h n):=by
 rw [bE,bE,dA,Bn]
 cases h[n]? <;>rfl
theorem alG {α:Type} (n:Nat) (f:Nat→α):stN n f=f n:=by cases n<;>rfl
theorem ad1 {α:Type}: ∀(l:List Nat) (f:List Nat→α),stL l f=f l
 |[],_=>rfl
 |a::r,f=>by
  show stL r (fun r=>f (a::r))=_;rw [ad1 r]
theorem abP {b:Nat}: ∀{ks:List Nat},rA b ks=true→ks[asC b ks]? =some b
 |[],h=>by cases h
 |a::r,h=>by
  have h:bq (Nat.beq a b) true (rA b r)=true:=h;show (a::r)[bq (Nat.beq a b) 0 (Nat.succ (asC b r))]? =some b
  cases e:Nat.beq a b with
  |true=>rw [aA,A8 e];rfl
  |false=>
   rw [e,aE] at h;rw [aE,BA];exact abP h
theorem tV: ∀{ks:List Nat} {k i a:Nat},acb ks k=true→ks[i]? =some a→k+i≤a
 |[],_,_,_,_,e=>by simp at e
 |x::r,k,i,a,h,e=>by
  have h:and (Nat.ble k x) (acb r (Nat.succ x))=true:=h;rw [Ba] at h;have h1:=Be h.1
  cases i with
  |zero=>simp at e;omega
  |succ i=>
   have:=tV (i:=i) h.2 (by simpa using e)
   simp at this
   omega
theorem abd: ∀{ks:List Nat} {k i j a:Nat},acb ks k=true→ks[i]? =some a→ks[j]? =some a→i=j
 |[],_,_,_,_,_,e,_=>by simp at e
 |x::r,k,i,j,a,h,e1,e2=>by
  have h:and (Nat.ble k x) (acb r (Nat.succ x))=true:=h;rw [Ba] at h
  cases i with
  |zero=>
   cases j with
   |zero=>rfl
   |succ j=>
    have:=tV (i:=j) h.2 (by simpa using e2)
    simp at e1 this;omega
  |succ i=>
   cases j with
   |zero=>
    have:=tV (i:=i) h.2 (by simpa using e1)
    simp at e2 this;omega
   |succ j=>rw [abd (i:=i) (j:=j) h.2 (by simpa using e1) (by simpa using e2)]
theorem yw {α:Type} {f:α→Bool}: ∀{l:List α},gh f l=true→ ∀a∈l,f a=true
 |[],_,_,hm=>by cases hm
 |x::r,h,a,hm=>by
  have h:and (f x) (gh f r)=true:=h;rw [Ba] at h;rcases Bv.1 hm with rfl|hm
  ·exact h.1
  ·exact yw h.2 a hm
theorem apo (I:Inv C ok w ρ h) {ok1:Nat→Prop} {w1:World} {ρ1:Rho} {h1:AH} {r:AV} {u:Value} (E:Ext ok w ρ h ok1 w1 ρ1 h1) (I1:Inv C ok1 w1 ρ1 h1) (hv:V ok1 w1 r ρ1 u):
 ∃ρ2,Ext ok w ρ h ok1 w1 ρ2 (gcA h.length (r,h1)).2∧Inv C ok1 w1 ρ2 (gcA h.length (r,h1)).2∧V ok1 w1 (gcA h.length (r,h1)).1 ρ2 u∧ ∀n q,ab (gcA h.length (r,h1)).2 n≠none→ρ2 n=some q→ ∃m,ab h1 m≠none∧ρ1 m=some q:=by
 unfold gcA;rw [alG,ad1]
 generalize auz _ _ _=ks
 unfold gcK
 generalize hk:h.length=k
 cases hc:and (and (acb ks k) (r.anB (gcP k ks))) (and (gh (aag (gcP k ks)) (cE k h1)) (gh (fun b=>aag (gcP k ks) (ab h1 b)) ks)) with
 |false=>rw [aE];exact ⟨ρ1,E,I1,hv,fun n q hn e=>⟨n,hn,e⟩⟩
 |true=>
  rw [aA];rw [Ba,Ba,Ba] at hc;obtain ⟨⟨c1,c2⟩,c3,c4⟩:=hc;have hlen:k≤h1.length:=hk▸E.len
  let ρ2:Rho:=fun n=>if n<k then ρ1 n else (ks[n-k]?).bind ρ1
  have lo: ∀n,n<k→ρ2 n=ρ1 n:=fun n hn=>by
   show (if n<k then ρ1 n else _)=_;rw [if_pos hn]
  have hi: ∀n,¬n<k→ρ2 n=(ks[n-k]?).bind ρ1:=fun n hn=>by
   show (if n<k then ρ1 n else _)=_;rw [if_neg hn]
  have sub: ∀n q,n<k→ρ1 n=some q→ρ2 n=some q:=fun n q hn e=>by rw [lo n hn];exact e
  have oG: ∀n q,gcP k ks n=true→ρ1 n=some q→ρ2 (gcF k ks n)=some q:=by
   intro n q hp e;unfold gcP at hp;unfold gcF
   cases hb:Nat.blt n k with
   |true=>
    rw [aA];exact sub n q (by simpa [Ce] using hb) e
   |false=>
    rw [hb,aE] at hp;rw [aE]
    have:=abP hp
    show ρ2 (k+asC n ks)=_;rw [hi _ (by omega),BK,this];exact e
  have cases2: ∀n q,ρ2 n=some q→(n<k∧ρ1 n=some q)∨(k≤n∧ ∃b,ks[n-k]? =some b∧k≤b∧ρ1 b=some q):=by
   intro n q e
   by_cases hn:n<k
   ·rw [lo n hn] at e;exact .inl ⟨hn,e⟩
   ·rw [hi n hn] at e
    cases hb:ks[n-k]? with
    |none=>rw [hb] at e;cases e
    |some b=>
     rw [hb] at e
     have:=tV c1 hb
     exact .inr ⟨by omega,b,rfl,by omega,e⟩
  generalize hh2:av (dc (uv k ks) (cE k h1)) (dc (fun b=>ad5 (gcF k ks) (ab h1 b)) ks)=h2
  have hl2:h2.length=k+ks.length:=by
   rw [←hh2,fY,dA,dA,BI,BI,aS,Bq];omega
  have get: ∀n,ab h2 n=if n<k then uv k ks (ab h1 n) else ((ks[n-k]?).map fun b=>ad5 (gcF k ks) (ab h1 b)).getD none:=by
   intro n;rw [←hh2,cN,dA,dA,BI,aS,Bq,Da hlen]
   split
   ·next hn=>
    rw [bE,Bn,BZ,if_pos hn,bE]
    cases h1[n]? <;>rfl
   ·rw [bE,Bn]
  have blk: ∀q b,aag (gcP k ks) (some b)=true→iq ok1 w1 ρ1 q b→ ∃b',ad5 (gcF k ks) (some b)=some b'∧iq ok1 w1 ρ2 q b':=by
   intro q b ha hb
   cases b with
   |cells cs y=>
    obtain ⟨arr,e,fr,g1,g2,g3,g4⟩:=hb;have ha:jK (gcP k ks) cs=true:=ha;exact ⟨_,rfl,arr,e,fr,g1,g2,VAt.ren cs oG ha g3,g4⟩
   |map xs ys=>
    obtain ⟨es,ck,g1,g2,g3,g4⟩:=hb;have ha:and (jK (gcP k ks) xs) (jK (gcP k ks) ys)=true:=ha;rw [Ba] at ha;exact ⟨_,rfl,es,ck,g1,VL.ren xs oG ha.1 g2,VL.ren ys oG ha.2 g3,g4⟩
   |rows z ll y=>
    obtain ⟨g0,arr,e,fr,g1,g2,g3,g4⟩:=hb;have ha:gh (jK (gcP k ks)) ll=true:=ha;rw [ox rfl (oV _)] at ha;exact ⟨_,rfl,uA (qa _) (nU _) g0,arr,e,fr,g1,g2,by rw [pM (qa _) (nU _)];exact VAt.ren _ oG ha g3,g4⟩
  have old: ∀n b,n<k→ab h1 n=some b→ ∀q,iq ok1 w1 ρ1 q b→ ∃b',uv k ks (some b)=some b'∧iq ok1 w1 ρ2 q b':=by
   intro n b hn hb q hq;unfold uv
   cases hl:aqu k (some b) with
   |true=>
    rw [aA];have hl:b.lt k=true:=hl;refine ⟨b,rfl,?_⟩
    cases b with
    |cells cs yt=>
     obtain ⟨arr,et,fr,g1,g2,g3,g4⟩:=hq;exact ⟨arr,et,fr,g1,g2,VAt.names cs sub hl g3,g4⟩
    |map xs ys=>
     obtain ⟨es,ck,g1,g2,g3,g4⟩:=hq;have hl:and (ltL k xs) (ltL k ys)=true:=hl;rw [Ba] at hl;exact ⟨es,ck,g1,VL.names xs sub hl.1 g2,VL.names ys sub hl.2 g3,g4⟩
    |rows z ll y=>
     obtain ⟨g0,arr,et,fr,g1,g2,g3,g4⟩:=hq;have hl:gh (ltL k) ll=true:=hl;rw [ox (yC _) (kA _)] at hl;exact ⟨g0,arr,et,fr,g1,g2,VAt.names _ sub hl g3,g4⟩
   |false=>
    rw [aE];refine blk q b ?_ hq
    have:=yw c3 (some b) (by
     rw [aS];rw [bE] at hb;have hx:h1[n]? =some (some b):=by
      cases e:h1[n]? with
      |none=>rw [e] at hb;cases hb
      |some x=>rw [e] at hb;exact congrArg some hb
     exact Bg (i:=n) (by rw [BZ,if_pos hn];exact hx))
    exact this
  have gone: ∀x:Option Blk,uv k ks x≠none→x≠none:=by
   intro x hx e;subst e;apply hx;unfold uv;exact rfl
  have gone': ∀x:Option Blk,ad5 (gcF k ks) x≠none→x≠none:=by
   intro x hx e;subst e;exact hx rfl
  have liv: ∀n,ab h2 n≠none→(n<k∧ab h1 n≠none)∨(k≤n∧ ∃b,ks[n-k]? =some b∧ab h1 b≠none):=by
   intro n hn;rw [get] at hn
   split at hn
   ·next l=>exact .inl ⟨l,gone _ hn⟩
   ·next l=>
    cases hb:ks[n-k]? with
    |none=>rw [hb] at hn;exact absurd rfl hn
    |some b=>rw [hb] at hn;exact .inr ⟨by omega,b,rfl,gone' _ hn⟩
  refine ⟨ρ2,⟨⟨E.up.okb,E.up.oku,E.up.shp,fun n q e=>sub n q (hk▸(I.dom n q e).1) (E.up.nam n q e)⟩,E.size,E.os,E.tape,E.output,by rw [hl2];omega,E.keep,E.oknew,?_,?_⟩,⟨I1.okb,?_,?_,?_,I1.gl⟩,V.ren r oG c2 hv,fun n q hn e=>?_⟩
  ·intro n hn e
   rcases liv n e with ⟨_,e⟩|⟨l,_⟩
   ·exact E.alive n hn e
   ·omega
  ·intro n q e
   rcases cases2 n q e with ⟨_,e⟩|⟨l,b,hb,hkb,e⟩
   ·exact E.rnew n q e
   ·rcases E.rnew b q e with e|⟨_,e⟩
    ·have:=(I.dom b q e).1;omega
    ·exact .inr ⟨by omega,e⟩
  ·intro n q e
   rw [hl2];rcases cases2 n q e with ⟨l,e⟩|⟨l,b,hb,hkb,e⟩
   ·exact ⟨by omega,(I1.dom n q e).2⟩
   ·have:=(Bc.1 hb).1
    exact ⟨by omega,(I1.dom b q e).2⟩
  ·intro n b' e
   rw [get] at e
   split at e
   ·next l=>
    have hx:=gone (ab h1 n) (by rw [e];simp)
    cases hb:ab h1 n with
    |none=>exact absurd hb hx
    |some b=>
     obtain ⟨q,e1,e2,e3⟩:=I1.live n b hb;obtain ⟨b2,g1,g2⟩:=old n b l hb q e3;rw [hb,g1] at e
     cases e
     exact ⟨q,sub n q l e1,e2,g2⟩
   ·next l=>
    cases hkb:ks[n-k]? with
    |none=>rw [hkb] at e;cases e
    |some a=>
     rw [hkb] at e;have e:ad5 (gcF k ks) (ab h1 a)=some b':=e;have hx:=gone' (ab h1 a) (by rw [e];simp)
     cases hb:ab h1 a with
     |none=>exact absurd hb hx
     |some b=>
      obtain ⟨q,e1,e2,e3⟩:=I1.live a b hb;obtain ⟨b2,g1,g2⟩:=blk q b (by have:=yw c4 a (Bg hkb);rw [hb] at this;exact this) e3;rw [hb,g1] at e
      cases e
      refine ⟨q,?_,e2,g2⟩;rw [hi n l,hkb];exact e1
  ·intro n m q hn hm e1 e2
   rcases cases2 n q e1 with ⟨l1,f1⟩|⟨l1,b1,hb1,kb1,f1⟩<;>rcases cases2 m q e2 with ⟨l2,f2⟩|⟨l2,b2,hb2,kb2,f2⟩<;>
    rcases liv n hn with ⟨p1,q1⟩|⟨p1,x1,r1,q1⟩<;>rcases liv m hm with ⟨p2,q2⟩|⟨p2,x2,r2,q2⟩<;>try omega
   ·exact I1.inj n m q q1 q2 f1 f2
   ·rw [hb2] at r2;cases r2
    have:=I1.inj n b2 q q1 q2 f1 f2;omega
   ·rw [hb1] at r1;cases r1
    have:=I1.inj b1 m q q1 q2 f1 f2;omega
   ·rw [hb1] at r1;cases r1
    rw [hb2] at r2;cases r2
    have:=I1.inj b1 b2 q q1 q2 f1 f2
    subst this
    have:=abd c1 hb1 hb2
    omega
  ·rcases liv n hn with ⟨l,h⟩|⟨l,b,hb,h⟩
   ·exact ⟨n,h,by rw [←lo n l];exact e⟩
   ·rw [hi n (by omega),hb] at e
    exact ⟨b,h,e⟩
theorem vA (I:Inv C ok w ρ h) {ok1:Nat→Prop} {w1:World} {ρ1:Rho} {h1 h':AH} {r v:AV} {u:Value} (E:Ext ok w ρ0 [] ok1 w1 ρ1 h1) (I1:Inv C ok1 w1 ρ1 h1) (hv:V ok1 w1 r ρ1 u)
 (e:zt h (r,h1)=some (v,h')): ∃ok' ρ',Ext ok w ρ h ok' w1 ρ' h'∧Inv C ok' w1 ρ' h'∧V ok' w1 v ρ' u:=by
 unfold zt at e
 cases e
 obtain ⟨E',I'⟩:=tK I E I1 (fun _ h=>h) (fun _ h=>.inl h);have none': ∀n,¬(ab ([]:AH) n≠none):=fun n hn=>hn (by simp [ab,dQ])
 let ρ2:Rho:=fun n=>if n<h.length then ρ n else ρ1 (n-h.length)
 have old: ∀n r,ρ n=some r→ρ2 n=some r:=fun n r e=>by
  have:=(I.dom n r e).1
  show (if n<h.length then ρ n else _)=_;rw [if_pos this];exact e
 have new: ∀n r,ρ1 n=some r→ρ2 (n+h.length)=some r:=fun n r e=>by
  show (if n+h.length<h.length then _ else ρ1 (n+h.length-h.length))=_;rw [if_neg (by omega),C5];exact e
 have hl:(av h (dc (wj (ag h)) h1)).length=h.length+h1.length:=by rw [fY,dA,BI]
 have get: ∀n,ab (av h (dc (wj (ag h)) h1)) n=if n<h.length then ab h n else wj h.length (ab h1 (n-h.length)):=by
  intro n;rw [cN,abR,ah]
 have U1:Up ok1 w1 ρ ok1 w1 ρ2:=⟨fun _ _=>rfl,fun _ h=>h,fun _ _ h=>h,old⟩;have U:Up ok w ρ ok1 w1 ρ2:=⟨E'.up.okb,E'.up.oku,E'.up.shp,fun n r e=>old n r e⟩;have blk: ∀r b,iq ok1 w1 ρ1 r b→iq ok1 w1 ρ2 r (b.up h.length):=by
  intro r b hb
  cases b with
  |cells cs yt=>
   obtain ⟨arr,et,fr,g1,g2,g3,g4⟩:=hb;exact ⟨arr,et,fr,g1,g2,VAt.lift cs new g3,g4⟩
  |map ks vs=>
   obtain ⟨es,ck,g1,g2,g3,g4⟩:=hb;exact ⟨es,ck,g1,VL.lift ks new g2,VL.lift vs new g3,g4⟩
  |rows z ll y=>
   obtain ⟨g0,arr,et,fr,g1,g2,g3,g4⟩:=hb;exact ⟨uA (tJ _) (hJ _) g0,arr,et,fr,g1,g2,by rw [pM (tJ _) (hJ _)];exact VAt.lift _ new g3,g4⟩
 refine ⟨ok1,ρ2,⟨U,E.size,E.os,E.tape,E.output,by show h.length≤(av h (dc (wj (ag h)) h1)).length;rw [hl];omega,E'.keep,E'.oknew,?_,?_⟩,⟨I1.okb,?_,?_,?_,I1.gl⟩,?_⟩
 ·intro n hn hb;rw [get,if_pos hn] at hb;exact hb
 ·intro n r e
  change (if n<h.length then ρ n else ρ1 (n-h.length))=some r at e
  split at e
  ·exact .inl e
  ·exact .inr ⟨by omega,.inr (qI E e)⟩
 ·intro n r e
  change (if n<h.length then ρ n else ρ1 (n-h.length))=some r at e
  rw [hl]
  split at e
  ·have:=I'.dom n r e;omega
  ·have:=I1.dom _ r e;omega
 ·intro n b e
  rw [get] at e
  split at e
  ·obtain ⟨r,e1,e2,e3⟩:=I'.live n b e
   exact ⟨r,old n r e1,e2,e3.up U1 rfl⟩
  ·next hn=>
   cases hb:ab h1 (n-h.length) with
   |none=>rw [hb] at e;cases e
   |some b1=>
    rw [hb] at e;cases e
    obtain ⟨r,e1,e2,e3⟩:=I1.live _ b1 hb;refine ⟨r,?_,e2,blk r b1 e3⟩
    have:=new _ r e1
    rwa [Nat.sub_add_cancel (by omega)] at this
 ·intro n m r hn hm e1 e2
  have side: ∀n,ab (av h (dc (wj (ag h)) h1)) n≠none→ρ2 n=some r→(n<h.length∧ab h n≠none∧ρ n=some r)∨(h.length≤n∧ab h1 (n-h.length)≠none∧ρ1 (n-h.length)=some r):=by
   intro n hn e
   change (if n<h.length then ρ n else ρ1 (n-h.length))=some r at e
   rw [get] at hn
   split at e
   ·next l=>rw [if_pos l] at hn;exact .inl ⟨l,hn,e⟩
   ·next l=>
    rw [if_neg l] at hn;refine .inr ⟨by omega,fun c=>hn (by rw [c];rfl),e⟩
  rcases side n hn e1 with ⟨a1,a2,a3⟩|⟨a1,a2,a3⟩<;>rcases side m hm e2 with ⟨b1,b2,b3⟩|⟨b1,b2,b3⟩
  ·exact I.inj n m r a2 b2 a3 b3
  ·have:=(I.dom n r a3).2;have:=qI E b3;omega
  ·have:=(I.dom m r b3).2;have:=qI E a3;omega
  ·have:=I1.inj _ _ r a2 b2 a3 b3;omega
 ·rw [ah];exact V.lift r new hv
theorem xw {f:Nat} (I:Inv C ok w ρ h) {ok1:Nat→Prop} {w1:World} {ρ1:Rho} {h1 h':AH} {r v:AV} {u:Value} (E:Ext ok w ρ0 [] ok1 w1 ρ1 h1) (I1:Inv C ok1 w1 ρ1 h1) (hv:V ok1 w1 r ρ1 u)
 (e:jF C f h (r,h1)=some (v,h')): ∃ok' ρ',Ext ok w ρ h ok' w1 ρ' h'∧Inv C ok' w1 ρ' h'∧V ok' w1 v ρ' u:=by
 unfold jF at e
 cases hr:r.lt 0 with
 |true=>
  rw [hr,aA] at e
  cases e
  obtain ⟨E',I'⟩:=tK I E I1 (fun _ h=>h) (fun _ h=>.inl h);exact ⟨ok1,ρ,E',I',V.names (k:=0) r (fun n _ hn=>absurd hn (Cn n)) hr hv⟩
 |false=>
  rw [hr,aE] at e
  cases hf:C.fz f with
  |true=>
   rw [hf,aA] at e
   split at e
   ·rename_i v' hz
    cases e
    let ok2:Nat→Prop:=fun b=>ok1 b∨ ∃n,ab h1 n≠none∧ρ1 n=some b
    obtain ⟨E',I'⟩:=tK (ok2:=ok2) I E I1 (fun _ h=>.inl h) (fun b hb=>by
     rcases hb with hb|⟨n,_,hb⟩
     ·exact .inl hb
     ·exact .inr ⟨qI E hb,(I1.dom n b hb).2⟩)
    refine ⟨ok2,ρ,E',I',?_⟩;exact V.up _ ⟨fun _ _=>rfl,fun _ h=>h,fun _ _ h=>h,fun _ _ h=>by cases h⟩ (al4 (ok':=ok2) I1 (fun _ h=>.inl h) (fun n b hn hb=>.inr ⟨n,hn,hb⟩) 40 hz hv)
   ·cases e
  |false=>
   rw [hf,aE] at e
   cases ht:C.tr f with
   |false=>rw [ht,aE] at e;exact vA I E I1 hv e
   |true=>
    rw [ht,aA] at e;obtain ⟨ρ2,E2,I2,V2,_⟩:=apo I.own E I1 hv;exact vA I E2 I2 V2 e
theorem aap (I:Inv C ok w ρ h) {ok1:Nat→Prop} {w1:World} {ρ1:Rho} {h1:AH} (E:Ext ok w ρ h ok1 w1 ρ1 h1) (I1:Inv C ok1 w1 ρ1 h1) (c2:hlt h.length (h1.take h.length)=true):
 ∃ρ2,Ext ok w ρ h ok1 w1 ρ2 (h1.take h.length)∧Inv C ok1 w1 ρ2 (h1.take h.length)∧(∀n r,n<h.length→ρ1 n=some r→ρ2 n=some r)∧(∀n r,ρ2 n=some r→n<h.length∧ρ1 n=some r):=by
 let ρ2:Rho:=fun n=>if n<h.length then ρ1 n else none
 have sub: ∀n r,n<h.length→ρ1 n=some r→ρ2 n=some r:=fun n r hn e=>by
  show (if n<h.length then ρ1 n else none)=_;rw [if_pos hn];exact e
 have sub': ∀n r,ρ2 n=some r→n<h.length∧ρ1 n=some r:=fun n r e=>by
  change (if n<h.length then ρ1 n else none)=some r at e
  split at e
  ·next l=>exact ⟨l,e⟩
  ·cases e
 have hl:(h1.take h.length).length=h.length:=by have:=E.len;simp;omega
 have get: ∀n,ab (h1.take h.length) n=if n<h.length then ab h1 n else none:=by
  intro n;rw [bE,bE,BZ]
  split<;>rfl
 have U1:Up ok w ρ ok1 w1 ρ2:=⟨E.up.okb,E.up.oku,E.up.shp,fun n r e=>sub n r (I.dom n r e).1 (E.up.nam n r e)⟩;have low: ∀n b,ab (h1.take h.length) n=some b→b.lt h.length=true:=by
  have gen: ∀(l:AH) (n:Nat) (b:Blk),hlt h.length l=true→ab l n=some b→b.lt h.length=true:=by
   intro l
   induction l with
   |nil=>intro n b _ e;simp [ab,dQ] at e
   |cons x l ih=>
    intro n b hc e;have hc:and (aqu h.length x) (hlt h.length l)=true:=hc;rw [Ba] at hc
    cases n with
    |zero=>
     have:x=some b:=e
     rw [this] at hc;exact hc.1
    |succ n=>exact ih n b hc.2 e
  exact fun n b e=>gen _ n b c2 e
 refine ⟨ρ2,⟨U1,E.size,E.os,E.tape,E.output,by show h.length≤(h1.take h.length).length;rw [hl];omega,E.keep,E.oknew,?_,?_⟩,⟨I1.okb,?_,?_,?_,I1.gl⟩,sub,sub'⟩
 ·intro n hn e
  rw [get,if_pos hn] at e;exact E.alive n hn e
 ·intro n r e
  obtain ⟨_,e⟩:=sub' n r e;exact E.rnew n r e
 ·intro n r e
  obtain ⟨hn,e⟩:=sub' n r e;exact ⟨by show n<(h1.take h.length).length;rw [hl];exact hn,(I1.dom n r e).2⟩
 ·intro n b e
  have hb:=low n b e;rw [get] at e
  split at e
  ·next hn=>
   obtain ⟨r,e1,e2,e3⟩:=I1.live n b e;refine ⟨r,sub n r hn e1,e2,?_⟩
   cases b with
   |cells cs yt=>
    obtain ⟨arr,et,fr,g1,g2,g3,g4⟩:=e3;exact ⟨arr,et,fr,g1,g2,VAt.names cs sub hb g3,g4⟩
   |map ks vs=>
    obtain ⟨es,ck,g1,g2,g3,g4⟩:=e3;have hb:and (ltL h.length ks) (ltL h.length vs)=true:=hb;rw [Ba] at hb;exact ⟨es,ck,g1,VL.names ks sub hb.1 g2,VL.names vs sub hb.2 g3,g4⟩
   |rows z ll y=>
    obtain ⟨g0,arr,et,fr,g1,g2,g3,g4⟩:=e3;have hb:gh (ltL h.length) ll=true:=hb;rw [ox (yC _) (kA _)] at hb;exact ⟨g0,arr,et,fr,g1,g2,VAt.names _ sub hb g3,g4⟩
  ·cases e
 ·intro n m r hn hm e1 e2
  obtain ⟨a1,a2⟩:=sub' n r e1;obtain ⟨b1,b2⟩:=sub' m r e2;rw [get,if_pos a1] at hn;rw [get,if_pos b1] at hm;exact I1.inj n m r hn hm a2 b2
theorem aqy {f:Nat} (I:Inv C ok w ρ h) {ok1:Nat→Prop} {w1:World} {ρ1:Rho} {h1 h':AH} {r v:AV} {u:Value} (E:Ext ok w ρ h ok1 w1 ρ1 h1) (I1:Inv C ok1 w1 ρ1 h1) (hv:V ok1 w1 r ρ1 u)
 (e:aaR C f (ag h) (r,h1)=some (v,h')): ∃ok' ρ',Ext ok w ρ h ok' w1 ρ' h'∧Inv C ok' w1 ρ' h'∧V ok' w1 v ρ' u:=by
 unfold aaR at e
 cases ht:C.tr f with
 |false=>rw [ht,aE] at e;cases e;exact ⟨ok1,ρ1,E,I1,hv⟩
 |true=>
  rw [ht,aA] at e
  cases hc:and (r.lt (ag h)) (hlt (ag h) (cE (ag h) h1)) with
  |false=>
   rw [hc,aE,ah] at e;obtain ⟨ρ2,E2,I2,V2,_⟩:=apo I E I1 hv;have e1:v=(gcA h.length (r,h1)).1:=by rw [Cb e]
   have e2:h'=(gcA h.length (r,h1)).2:=by rw [Cb e]
   rw [e1,e2];exact ⟨ok1,ρ2,E2,I2,V2⟩
  |true=>
   rw [hc,aA] at e
   cases e
   rw [Ba,ah,aS] at hc;obtain ⟨c1,c2⟩:=hc;rw [ah,aS];obtain ⟨ρ2,E2,I2,sub,_⟩:=aap I E I1 c2;exact ⟨ok1,ρ2,E2,I2,V.names r sub c1 hv⟩
def akW (P:Program) (C:Cx) (ok:Nat→Prop) (w:World) (ρ:Rho) (h:AH) (f:Nat) (us:Array Value) (v:AV) (h':AH):Prop:=
 (∃u w' ok' ρ',(callFunc f us).run P w= .ok (.value u) w'∧Ext ok w ρ h ok' w' ρ' h'∧Inv C ok' w' ρ' h'∧V ok' w' v ρ' u)∨
 ((callFunc f us).run P w= .ok (.enter f us) w∧Calls P f us w fun e w'=>∃u ok' ρ',e= .returned u∧Ext ok w ρ h ok' w' ρ' h'∧Inv C ok' w' ρ' h'∧V ok' w' v ρ' u)
theorem ra {f : Nat} {us : Array Value} (hf : ∃ fn, P.funcs[f]? = some fn ∧ (fn.name == "runtime.NumGoroutine") = false ∧ fn.body.isNone = false) : (callFunc f us).run P w = .ok (.enter f us) w := by
 obtain ⟨fn,h1,h2,h3⟩:=hf;simp only [callFunc,Sem.run_bind,run_program,Result.andThen_ok,h1,h2,h3,BR,if_false,Sem.run_pure]
theorem abq (X:c7 P C) (H:dB P C run) {f:Nat} {args:List AV} {us:List Value} {v:AV} {h':AH} (I:Inv C ok w ρ h) (hv:VL ok w args ρ us) (e:aH C run f args h=some (v,h')):akW P C ok w ρ h f us.toArray v h':=by
 unfold aH at e
 split at e
 ·rename_i g hg
  exact .inl (X.ext f g hg args h v h' e ok w ρ us I hv)
 ·right
  cases hp0:and (not (C.own f)) (ltL 0 args) with
  |true=>
   rw [hp0,aA] at e;have hp:ltL 0 args=true:=by rw [Ba] at hp0;exact hp0.2
   have hv0:VL ok w args ρ0 us:=VL.names (k:=0) args (fun n _ hn=>absurd hn (Cn n)) hp hv
   cases hm:C.rD f args with
   |some v'=>
    rw [hm] at e;have e:some (v',h)=some (v,h'):=e
    cases e
    obtain ⟨m1,m2,m3⟩:=X.rD f args v hm;refine ⟨ra m1,(m3 ok w us I.own hv0).mono fun en w'=>?_⟩;rintro ⟨u,ok',rfl,E,I',hv'⟩;obtain ⟨E2,I2⟩:=tK I E I' (fun _ h=>h) (fun _ h=>.inl h);exact ⟨u,ok',ρ,rfl,E2,I2,V.names (k:=0) v (fun n _ hn=>absurd hn (Cn n)) m2 hv'⟩
   |none=>
    rw [hm] at e;have e:au (run f args []) (jF C f h)=some (v,h'):=e;obtain ⟨⟨r,h1⟩,e1,e2⟩:=ai e;obtain ⟨q1,q2⟩:=H f args [] r h1 e1;refine ⟨ra q1,(q2 ok w ρ0 us I.own hv0).mono fun en w'=>?_⟩;rintro ⟨u,ok',ρ',rfl,E,I',hv'⟩;obtain ⟨ok2,ρ2,E2,I2,V2⟩:=xw I E I' hv' e2;exact ⟨u,ok2,ρ2,rfl,E2,I2,V2⟩
  |false=>
   rw [hp0,aE] at e;obtain ⟨⟨r,h1⟩,e1,e2⟩:=ai e;obtain ⟨q1,q2⟩:=H f args h r h1 e1;refine ⟨ra q1,(q2 ok w ρ us I hv).mono fun en w'=>?_⟩;rintro ⟨u,ok',ρ',rfl,E,I',hv'⟩;obtain ⟨ok2,ρ2,E2,I2,V2⟩:=aqy I E I' hv' e2;exact ⟨u,ok2,ρ2,rfl,E2,I2,V2⟩
theorem Does.call {f:Nat} {us:Array Value} {v:AV} {h':AH} (I:Inv C ok w ρ h) (he:execOp a.eval o=callFunc f us) (c:akW P C ok w ρ h f us v h') (e:κ v h'=some rs):Does P C o a ok w ρ h κ rs:=by
 rcases c with ⟨u,w',ok',ρ',c1,c2,c3,c4⟩|⟨c1,c2⟩
 ·refine ⟨v,h',e,fun next Q hn=>?_⟩
  unfold Oper.wp;rw [he,c1];exact hn u w' ok' ρ' c2 c3 c4
 ·refine ⟨v,h',e,fun next Q hn=>?_⟩
  unfold Oper.wp;rw [he,c1];show Calls P f us w _;refine c2.mono fun en w'=>?_
  rintro ⟨u,ok',ρ',rfl,E,I',hv'⟩;exact hn u w' ok' ρ' E I' hv'
end
section
variable {P:Program} {C:Cx} {ok:Nat→Prop} {w:World} {ρ:Rho} {h:AH} {κ:Ka} {rs:Rs} {a:Act} {run:Run} {ds:List (Option Nat)} {σ:List AV} {T:Tms}
theorem cB (e:no.f C run σ T h κ=some rs):False:=by cases e
theorem aR {t:Nat} {f:TI→OK} (e:(tyK C t f).f C run σ T h κ=some rs): ∃ti,C.ty t=some ti∧(f ti).f C run σ T h κ=some rs:=by
 unfold tyK at e
 split at e
 ·exact ⟨_,by assumption,e⟩
 ·exact (cB e).elim
theorem bqK {c:Bool} {x y:OK} (e:(bq c x y).f C run σ T h κ=some rs):(c=true∧x.f C run σ T h κ=some rs)∨(c=false∧y.f C run σ T h κ=some rs):=by
 cases c with
 |true=>exact .inl ⟨rfl,e⟩
 |false=>exact .inr ⟨rfl,e⟩
theorem iK {n:Nat} {k:OK} (e:(nz n k).f C run σ T h κ=some rs):n≠0∧k.f C run σ T h κ=some rs:=by
 rcases bqK e with ⟨_,e⟩|⟨h0,e⟩
 ·exact (cB e).elim
 ·exact ⟨fun c=>(by rw [c] at h0;cases h0),e⟩
theorem ss {l:List Operand} (hv: ∀x∈l,V ok w (ev C σ T (od ds x)) ρ (a.eval x)):VL ok w (evL C σ T (l.map (od ds))) ρ (l.map a.eval):=by
 unfold evL;rw [dA]
 induction l with
 |nil=>simp [VL]
 |cons x l ih=>
  simp only [BS,VL];exact ⟨_,_,rfl,hv x (by simp),ih (fun y hy=>hv y (by simp [hy]))⟩
theorem adx {l:List (Nat×Operand)} (hv: ∀x∈l.map (·.2),V ok w (ev C σ T (od ds x)) ρ (a.eval x)):VP ok w ρ (evP C σ T (l.map fun p=>(p.1,od ds p.2))) (l.map fun p=>(p.1,a.eval p.2)):=by
 unfold evP;rw [dA]
 induction l with
 |nil=>simp [VP]
 |cons x l ih=>
  exact ⟨rfl,hv x.2 (by simp),ih (fun y hy=>hv y (by simp at hy ⊢;exact .inr hy))⟩
theorem rG {x:Option Operand} (hv: ∀y,x=some y→V ok w (ev C σ T (od ds y)) ρ (a.eval y)):VO ok w ρ (evO C σ T (x.map (od ds))) (x.map a.eval):=by
 cases x with
 |none=>exact trivial
 |some y=>exact hv y rfl
theorem agG (X:c7 P C) {t:Nat} {ti:TI} (ht:C.ty t=some ti) {op:BinOp} {x y:Operand} {u v:Value} {X' Y':Operand} (hx:V ok w (ev C σ T (od ds x)) ρ u) (hy:V ok w (ev C σ T (od ds y)) ρ v)
 (e:(aej op ti (od ds x) (od ds y)).f C run σ T h κ=some rs):Pu P ok w ρ h κ rs (do eqGuard op t X' Y' u v;binOp op t u v):=by
 have TT:=X.ty _ _ ht;have hu:=TT.und;have skip: ∀{s:Pu P ok w ρ h κ rs (binOp op t u v)},(eqGuard op t X' Y' u v).run P w= .ok () w→Pu P ok w ρ h κ rs (do eqGuard op t X' Y' u v;binOp op t u v):=by
  intro s hg;obtain ⟨q,z,k1,k2,k3⟩:=s;exact ⟨q,z,k1,k2,by simp only [Sem.run_bind,hg,Result.andThen_ok,k3]⟩
 unfold aej at e
 split at e
 ·rename_i k hk
  rw [hk] at hu;have hp:=an1 (P:=P) (t:=t) hx hy e;refine skip (s:=hp) ?_
  have: ∃m n,ev C σ T (od ds x)= .int m n:=by
   cases op<;>simp only [xk] at e<;>obtain ⟨m,n,h1,_⟩:=cj e<;>exact ⟨m,n,h1⟩
  obtain ⟨m,n,h1⟩:=this;rw [h1] at hx;simp only [V] at hx;obtain ⟨k',_,rfl⟩:=hx;exact jh (by simp) (by simp) op
 ·rename_i hk
  rw [hk] at hu;have hp:=apm (P:=P) hu hx hy e;refine skip (s:=hp) ?_
  have: ∃l,ev C σ T (od ds x)= .str l:=by
   cases op<;>simp only [xE] at e<;>first|(exact (cB e).elim)|(obtain ⟨l,h1,_⟩:=fj e;exact ⟨l,h1⟩)
  obtain ⟨l,h1⟩:=this;rw [h1] at hx;simp only [V] at hx;obtain ⟨s,rfl,_⟩:=hx;exact jh (by simp) (by simp) op
 ·split at e
  ·obtain ⟨b,e1,e2⟩:=ai (show au (eqA ti _ _) _=some rs from e)
   obtain ⟨g1,g2,g3⟩:=amz (P:=P) (X:=X') (Y:=Y') TT (fun h1 h2=>X.fl _ _ ht h1 h2) hx hy e1;exact ⟨_,_,e2,we b,by simp only [Sem.run_bind,g1,Result.andThen_ok,g2]⟩
  ·obtain ⟨b,e1,e2⟩:=ai (show au (eqA ti _ _) _=some rs from e)
   obtain ⟨g1,g2,g3⟩:=amz (P:=P) (X:=X') (Y:=Y') TT (fun h1 h2=>X.fl _ _ ht h1 h2) hx hy e1;exact ⟨_,_,e2,we (!b),by simp only [Sem.run_bind,g1,Result.andThen_ok,g3]⟩
  ·exact (cB e).elim
theorem apr {op:UnOp} {ti:TI} {x:Operand} {u:Value} (hx:V ok w (ev C σ T (od ds x)) ρ u) (e:(unK op ti (od ds x)).f C run σ T h κ=some rs):Pu P ok w ρ h κ rs (Op.unary op u):=by
 unfold unK at e
 split at e
 ·exact av5 hx e
 ·exact awv hx e
 ·exact awe hx e
 ·exact (cB e).elim
theorem pZ (X:c7 P C) {e:Nat} (h8:ajA C e=true):P.underlying e=some (.int .u8):=by
 unfold ajA at h8
 split at h8
 ·rename_i ei he
  split at h8
  ·rename_i hk
   have:=(X.ty _ _ he).und
   rw [hk] at this;exact this
  ·cases h8
 ·cases h8
theorem amy (X:c7 P C) {s d:Nat} {si di:TI} (hs:C.ty s=some si) (hd:C.ty d=some di) (I:Inv C ok w ρ h) {x:Operand} {u:Value} (hx:V ok w (ev C σ T (od ds x)) ρ u)
 (e:(iO C (Nat.beq s d) si di (od ds x)).f C run σ T h κ=some rs):Ef P C ok w ρ h κ rs (convert s d u):=by
 have us:=(X.ty _ _ hs).und;have ud:=(X.ty _ _ hd).und;unfold iO at e
 split at e
 ·rename_i k1 k2
  rw [k1] at us;rw [k2] at ud
  exact (anJ (si:=si) us ud hx e).ef I
 ·rename_i k1 k2
  rw [k1] at us;rw [k2] at ud
  refine Pu.ef I ?_;obtain ⟨l,h1,e1⟩:=fj (show ij _ _=some rs from e);rw [h1] at hx;have hx':=hx;simp only [V] at hx;obtain ⟨S,rfl,_⟩:=hx;simp only [kg] at us ud;exact ⟨_,_,e1,hx',by simp [convert,underlying,us,ud]⟩
 ·rename_i el k1 k2
  rw [k1] at us;rw [k2] at ud
  rcases bqK e with ⟨h8,e⟩|⟨_,e⟩
  ·exact aaN us ud (pZ X h8) I hx e
  ·exact (cB e).elim
 ·rename_i el k1 k2
  rw [k1] at us;rw [k2] at ud
  rcases bqK e with ⟨h8,e⟩|⟨_,e⟩
  ·exact (sO us ud (pZ X h8) I hx e).ef I
  ·exact (cB e).elim
 ·rename_i el1 el k1 k2
  rw [k1] at us;rw [k2] at ud
  rcases bqK e with ⟨h8,e2⟩|⟨_,e⟩
  ·rw [Ba] at h8
   obtain rfl:=A8 h8.1;exact arD ud (pZ X h8.2) I hx e2
  ·exact (cB e).elim
 ·exact (cB e).elim
theorem aok (X:c7 P C) (H:dB P C run) (I:Inv C ok w ρ h) {o:Oper} {c:Call} (ho:o.op= .call c) (hv: ∀x∈o.op.operands,V ok w (ev C σ T (od ds x)) ρ (a.eval x)) (e:(qw C c ds).f C run σ T h κ=some rs):Does P C o a ok w ρ h κ rs:=by
 obtain ⟨dst,op,type,pos,after,guard⟩:=o;simp only at ho;subst ho;obtain ⟨callee,args,argTypes⟩:=c;have hargs: ∀x∈args.toList,V ok w (ev C σ T (od ds x)) ρ (a.eval x):=fun x hx=>hv x (by
  show x∈Call.operands ⟨callee,args,argTypes⟩;exact CQ.2 (.inr (BP.1 hx)))
 have hL:=ss (C:=C) (σ:=σ) (T:=T) (ds:=ds) hargs;have harr:(args.toList.map a.eval).toArray=args.map a.eval:=by
  apply Dn;rw [Dl,Cu]
 have two: ∀{x y:Operand},args.toList=[x,y]→args.map a.eval= #[a.eval x,a.eval y]:=by
  intro x y hl;rw [←harr,hl];rfl
 have single: ∀{x:Operand},args.toList=[x]→args.map a.eval= #[a.eval x]:=by
  intro x hl;rw [←harr,hl];rfl
 have fst: ∀{t:Nat} {l:List Nat},argTypes.toList=t::l→argTypes[0]? =some t:=by
  intro t l hl;rw [←Bk,hl];rfl
 have snd: ∀{t u:Nat} {l:List Nat},argTypes.toList=t::u::l→argTypes[1]? =some u:=by
  intro t u l hl;rw [←Bk,hl];rfl
 unfold qw at e
 split at e
 ·rename_i f hf
  simp only at hf;subst hf;obtain ⟨⟨v,h'⟩,e1,e2⟩:=ai (show au (aH C run f _ h) _=some rs from e);have he:execOp a.eval ⟨dst,.call ⟨.value (.func f),args,argTypes⟩,type,pos,after,guard⟩=callFunc f (args.toList.map a.eval).toArray:=by
   have:execOp a.eval ⟨dst,.call ⟨.value (.func f),args,argTypes⟩,type,pos,after,guard⟩=callFunc f (#[]++args.map a.eval++ #[]):=rfl
   rw [this,harr]
   simp
  exact Does.call I he (abq X H I hL e1) e2
 ·rename_i f hf hcal
  simp only at hcal;subst hcal;obtain ⟨n,fa,fc,h1,e1⟩:=aoQ (show am6 _ _=some rs from e);obtain ⟨⟨v,h'⟩,e2,e3⟩:=ai (show au (aH C run n _ h) _=some rs from e1);have hfv:=hv f (by
   show f∈Call.operands ⟨.value f,args,argTypes⟩;exact CQ.2 (.inl (by simp)))
  rw [h1] at hfv;simp only [V] at hfv;obtain ⟨a',c',k1,k2,k3⟩:=hfv;rw [aV,aV] at e2;have he:execOp a.eval ⟨dst,.call ⟨.value f,args,argTypes⟩,type,pos,after,guard⟩=callFunc n (a'.toList++(args.toList.map a.eval++c'.toList)).toArray:=by
   have:execOp a.eval ⟨dst,.call ⟨.value f,args,argTypes⟩,type,pos,after,guard⟩=(do let d ←Deferred.ofValue (a.eval f) (args.map a.eval);invoke d.target d.args):=rfl
   rw [this,k1]
   have:(do let d ←Deferred.ofValue (.func (.func n) a' c') (args.map a.eval);invoke d.target d.args:Sem Next)=callFunc n (a'++args.map a.eval++c'):=rfl
   rw [this]
   congr 1
   apply Dn
   simp
  exact Does.call I he (abq X H I (gH k2 (gH hL k3)) e2) e3
 ·rename_i hcal
  simp only at hcal;subst hcal
  split at e
  ·rename_i x t tl hl ht
   simp only at hl ht;obtain ⟨ti,h1,e⟩:=aR e;have hu:=(X.ty _ _ h1).und;have hx:=hargs x (by rw [hl];simp);have he:execOp a.eval ⟨dst,.call ⟨.builtin .len,args,argTypes⟩,type,pos,after,guard⟩=(do pure (.value (←Builtin.len_ argTypes type #[a.eval x]))):=by
    rw [←single hl];rfl
   split at e
   ·rename_i hk;rw [hk] at hu
    exact Does.pu I he (afj (fst ht) hu hx e)
   ·rename_i hk;rw [hk] at hu
    exact Does.pu I he (afo (fst ht) hu hx e)
   ·rename_i hk;rw [hk] at hu
    exact Does.pu I he (afW (fst ht) hu I hx e)
   ·rename_i n el hk;rw [hk] at hu
    refine Does.pu I he ⟨_,_,e,eE .i64 _,?_⟩;simp only [kg] at hu
    simp [Builtin.len_,fst ht,underlying,hu,goInt]
   ·exact (cB e).elim
  ·exact (cB e).elim
 ·rename_i hcal
  simp only at hcal;subst hcal
  split at e
  ·rename_i s x t u tl hl ht
   simp only at hl ht;obtain ⟨ti,h1,e⟩:=aR e;obtain ⟨ui,h2,e⟩:=aR e;have hu:=(X.ty _ _ h1).und;have hu2:=(X.ty _ _ h2).und;have hs:=hargs s (by rw [hl];simp);have hx:=hargs x (by rw [hl];simp);have he:execOp a.eval ⟨dst,.call ⟨.builtin .append,args,argTypes⟩,type,pos,after,guard⟩=(do pure (.value (←Builtin.append_ argTypes type #[a.eval s,a.eval x]))):=by
    rw [←two hl];rfl
   split at e
   ·rename_i k1 k2;rw [k1] at hu;rw [k2] at hu2
    obtain ⟨ei,h3,e⟩:=aR e;obtain ⟨z1,e⟩:=iK e;obtain ⟨z2,e⟩:=iK e;exact Does.ef he (age hu (X.ty _ _ h3) z1 z2 (fst ht) (snd ht) hu2 (fun k c=>by cases c) I hs hx e)
   ·rename_i k1 k2;rw [k1] at hu;rw [k2] at hu2
    obtain ⟨ei,h3,e⟩:=aR e;obtain ⟨z1,e⟩:=iK e;obtain ⟨z2,e⟩:=iK e;exact Does.ef he (age hu (X.ty _ _ h3) z1 z2 (fst ht) (snd ht) hu2 (fun k c=>by cases c) I hs hx e)
   ·exact (cB e).elim
  ·exact (cB e).elim
 ·rename_i hcal
  simp only at hcal;subst hcal
  split at e
  ·rename_i d x t tl hl ht
   simp only at hl ht;obtain ⟨ti,h1,e⟩:=aR e;have hu:=(X.ty _ _ h1).und;have hs:=hargs d (by rw [hl];simp);have hx:=hargs x (by rw [hl];simp);have he:execOp a.eval ⟨dst,.call ⟨.builtin .copy,args,argTypes⟩,type,pos,after,guard⟩=(do pure (.value (←Builtin.copy_ argTypes type #[a.eval d,a.eval x]))):=by
    rw [←two hl];rfl
   split at e
   ·rename_i hk;rw [hk] at hu
    obtain ⟨ei,h3,e⟩:=aR e;obtain ⟨z1,e⟩:=iK e;exact Does.ef he (ao2 hu (X.ty _ _ h3) (fst ht) I hs hx e)
   ·exact (cB e).elim
  ·exact (cB e).elim
 ·rename_i hcal
  simp only at hcal;subst hcal
  split at e
  ·rename_i x y hl
   simp only at hl;have he:execOp a.eval ⟨dst,.call ⟨.builtin .min,args,argTypes⟩,type,pos,after,guard⟩=(do pure (.value (←Builtin.min_ argTypes type #[a.eval x,a.eval y]))):=by
    rw [←two hl];rfl
   exact Does.pu I he (nZ (ts:=argTypes) (ty:=type) false (hargs x (by rw [hl];simp)) (hargs y (by rw [hl];simp)) e)
  ·exact (cB e).elim
 ·rename_i hcal
  simp only at hcal;subst hcal
  split at e
  ·rename_i x y hl
   simp only at hl;have he:execOp a.eval ⟨dst,.call ⟨.builtin .max,args,argTypes⟩,type,pos,after,guard⟩=(do pure (.value (←Builtin.max_ argTypes type #[a.eval x,a.eval y]))):=by
    rw [←two hl];rfl
   exact Does.pu I he (nZ (ts:=argTypes) (ty:=type) true (hargs x (by rw [hl];simp)) (hargs y (by rw [hl];simp)) e)
  ·exact (cB e).elim
 ·rename_i hcal
  simp only at hcal;subst hcal
  split at e
  ·rename_i m k t tl hl ht
   simp only at hl ht;obtain ⟨ti,h1,e⟩:=aR e;have hu:=(X.ty _ _ h1).und;have hs:=hargs m (by rw [hl];simp);have hx:=hargs k (by rw [hl];simp);have he:execOp a.eval ⟨dst,.call ⟨.builtin .delete,args,argTypes⟩,type,pos,after,guard⟩=(do pure (.value (←Builtin.delete_ argTypes type #[a.eval m,a.eval k]))):=by
    rw [←two hl];rfl
   split at e
   ·rename_i hk;rw [hk] at hu
    obtain ⟨ki,h3,e⟩:=aR e;exact Does.ef he (aqr hu ⟨X.ty _ _ h3,X.fl _ _ h3⟩ (fst ht) I hs hx e)
   ·exact (cB e).elim
  ·exact (cB e).elim
 ·rename_i hcal
  simp only at hcal;subst hcal
  split at e
  ·rename_i x t tl hl ht
   simp only at hl ht;obtain ⟨ti,h1,e⟩:=aR e;have hu:=(X.ty _ _ h1).und;have hx:=hargs x (by rw [hl];simp);have he:execOp a.eval ⟨dst,.call ⟨.builtin .clear,args,argTypes⟩,type,pos,after,guard⟩=(do pure (.value (←Builtin.clear_ argTypes type #[a.eval x]))):=by
    rw [←single hl];rfl
   split at e
   ·rename_i hk;rw [hk] at hu
    obtain ⟨ei,h3,e⟩:=aR e;obtain ⟨z1,e⟩:=iK e;exact Does.ef he (ars hu (X.ty _ _ h3) z1 (fst ht) I hx e)
   ·exact (cB e).elim
  ·exact (cB e).elim
 ·exact (cB e).elim
end
section
variable {P:Program} {C:Cx} {ok:Nat→Prop} {w:World} {ρ:Rho} {h:AH} {κ:Ka} {rs:Rs} {a:Act} {run:Run} {ds:List (Option Nat)} {σ:List AV} {T:Tms}
set_option maxHeartbeats 1600000 in
theorem aw5 (X:c7 P C) (H:dB P C run) (I:Inv C ok w ρ h) {o:Oper} (hv: ∀x∈o.op.operands,V ok w (ev C σ T (od ds x)) ρ (a.eval x)) (e:(opK C ds o.op).f C run σ T h κ=some rs):Does P C o a ok w ρ h κ rs:=by
 obtain ⟨dst,op,type,pos,after,guard⟩:=o;have X':=X.ty
 cases op
 case move x=>exact Does.now I rfl e (hv x (by simp [Op.operands]))
 case assign x=>exact Does.now I rfl e (hv x (by simp [Op.operands]))
 case pick c x y=>
  obtain ⟨b,h1,e1⟩:=ph (show nL _ _=some rs from e);have hc:=hv c (by simp [Op.operands]);have hx:=hv x (by simp [Op.operands]);have hy:=hv y (by simp [Op.operands]);rw [h1] at hc;simp only [V] at hc;refine Does.now (x:=if b then a.eval x else a.eval y) I ?_ e1 (by cases b<;>assumption);show (do pure (.value (if ←asBool (a.eval c) then a.eval x else a.eval y)):Sem Next).run P w=_;rw [hc];rfl
 case alloc el=>
  obtain ⟨ti,h1,e⟩:=aR e;exact Does.ef rfl (akn (X' _ _ h1) I e)
 case box el x=>
  obtain ⟨e1,e2⟩:=aB (show bq _ _ none=some rs from e);exact Does.ef rfl (awg I (hv x (by simp [Op.operands])) (atB e1) e2)
 case build t ps=>
  obtain ⟨ti,h1,e⟩:=aR e;have hp:VP ok w ρ (evP C σ T (ps.toList.map fun p=>(p.1,od ds p.2))) (ps.map fun p=>(p.1,a.eval p.2)).toList:=by
   rw [Cu];exact adx (fun x hx=>hv x (by
    show x∈(ps.toList.map (·.2)).toArray
    simpa using hx))
  split at e
  ·rename_i fs hk
   rcases bqK e with ⟨ha,e⟩|⟨_,e⟩
   ·exact Does.pu I rfl (lZ X' (X' _ _ h1) hk ha hp e)
   ·exact (cB e).elim
  ·rename_i n el hk
   obtain ⟨ei,h2,e⟩:=aR e;exact Does.pu I rfl (nt (X' _ _ h1) hk (X' _ _ h2) hp e)
  ·exact (cB e).elim
 case buildSlice t n ps=>
  obtain ⟨ti,h1,e⟩:=aR e;have hp:VP ok w ρ (evP C σ T (ps.toList.map fun p=>(p.1,od ds p.2))) (ps.map fun p=>(p.1,a.eval p.2)).toList:=by
   rw [Cu];exact adx (fun x hx=>hv x (by
    show x∈(ps.toList.map (·.2)).toArray
    simpa using hx))
  split at e
  ·rename_i el hk
   have hu:=(X' _ _ h1).und;rw [hk] at hu;obtain ⟨ei,h2,e⟩:=aR e;obtain ⟨hz,e⟩:=iK e;exact Does.ef rfl (arG hu (X' _ _ h2) hz I hp e)
  ·exact (cB e).elim
 case insert t m k x=>
  obtain ⟨ti,h1,e⟩:=aR e
  split at e
  ·rename_i kt et hk
   have hu:=(X' _ _ h1).und;rw [hk] at hu;obtain ⟨ki,h2,e⟩:=aR e;exact Does.eu rfl (vi hu ⟨X' _ _ h2,X.fl _ _ h2⟩ I (hv m (by simp [Op.operands])) (hv k (by simp [Op.operands])) (hv x (by simp [Op.operands])) e)
  ·exact (cB e).elim
 case mapUpdate t m k x=>
  obtain ⟨ti,h1,e⟩:=aR e
  split at e
  ·rename_i kt et hk
   have hu:=(X' _ _ h1).und;rw [hk] at hu;obtain ⟨ki,h2,e⟩:=aR e;exact Does.eu rfl (vi hu ⟨X' _ _ h2,X.fl _ _ h2⟩ I (hv m (by simp [Op.operands])) (hv k (by simp [Op.operands])) (hv x (by simp [Op.operands])) e)
  ·exact (cB e).elim
 case load t p=>
  obtain ⟨ti,h1,e⟩:=aR e;rcases bqK e with ⟨ha,e⟩|⟨ha,e⟩
  ·exact Does.pu I rfl (uw (X' _ _ h1) ha I (hv p (by simp [Op.operands])) e)
  ·exact Does.pu I rfl (uW (X' _ _ h1) ha I (hv p (by simp [Op.operands])) e)
 case store t p x=>
  obtain ⟨ti,h1,e⟩:=aR e;rcases bqK e with ⟨ha,e⟩|⟨ha,e⟩
  ·exact Does.eu rfl (ag2 (X' _ _ h1) I (hv p (by simp [Op.operands])) (hv x (by simp [Op.operands])) e)
  ·exact Does.eu rfl (ajC (X' _ _ h1) ha (X.one _ _ h1 ha) I (hv p (by simp [Op.operands])) (hv x (by simp [Op.operands])) e)
 case nilCheck x=>
  have hx:=hv x (by simp [Op.operands]);obtain ⟨k1,k2⟩:=aad (P:=P) (o:=⟨dst,.nilCheck x,type,pos,after,guard⟩) (a:=a) rfl rfl hx (show aM _ h κ=some rs from e);exact Does.now I k2 k1 hx
 case binOp op t x y ty=>
  obtain ⟨ti,h1,e⟩:=aR e;exact Does.pu I rfl (agG X h1 (hv x (by simp [Op.operands])) (hv y (by simp [Op.operands])) e)
 case unOp op t x=>
  obtain ⟨ti,h1,e⟩:=aR e;exact Does.pu I rfl (apr (hv x (by simp [Op.operands])) e)
 case convert s d x=>
  obtain ⟨si,h1,e⟩:=aR e;obtain ⟨di,h2,e⟩:=aR e;exact Does.ef rfl (amy X h1 h2 I (hv x (by simp [Op.operands])) e)
 case makeFunc fn fi ca=>
  cases fn<;>try (exact (cB e).elim)
  rename_i f
  refine Does.now (x:=.func (.func f) (fi.map a.eval) (ca.map a.eval)) I rfl (show κ (.fn f _ _) h=some rs from e) ?_;simp only [V];refine ⟨_,_,rfl,?_,?_⟩
  ·rw [Cu]
   exact ss (fun x hx=>hv x (by
    show x∈fi++ca;exact CQ.2 (.inl (BP.1 hx))))
  ·rw [Cu]
   exact ss (fun x hx=>hv x (by
    show x∈fi++ca;exact CQ.2 (.inr (BP.1 hx))))
 case makeMap t r=>
  cases r<;>try (exact (cB e).elim)
  have e:κ (.mpo (ag h)) (av h [some (.map [] [])])=some rs:=e;obtain ⟨E,I'⟩:=Ext.new (w':={w with heap:=w.heap.push (.map #[] 0)}) (b:=.map [] []) I rfl rfl rfl rfl (fun U=>⟨#[],0,by simp,by simp [VL],by simp [VL],by simp [wA]⟩);refine Does.ef (s:=Instr.makeMap t none) rfl ⟨_,_,.map (some w.heap.size),_,_,_,e,E,I',?_,?_⟩
  ·rw [ah];simp only [V];exact ⟨w.heap.size,by simp [cG],rfl⟩
  ·simp [Instr.makeMap]
 case makeSlice t l c=>
  obtain ⟨ti,h1,e⟩:=aR e
  split at e
  ·rename_i el hk
   have hu:=(X' _ _ h1).und;rw [hk] at hu;obtain ⟨ei,h2,e⟩:=aR e;obtain ⟨hz,e⟩:=iK e;exact Does.ef rfl (aqv hu (X' _ _ h2) hz I (hv l (by simp [Op.operands])) (hv c (by simp [Op.operands])) e)
  ·exact (cB e).elim
 case slice t x lo hi mx=>
  have hx:=hv x (by simp [Op.operands]);have hlo:VO ok w ρ (evO C σ T (lo.map (od ds))) (lo.map a.eval):=rG (fun y hy=>hv y (by subst hy;simp [Op.operands]));have hhi:VO ok w ρ (evO C σ T (hi.map (od ds))) (hi.map a.eval):=rG (fun y hy=>hv y (by subst hy;simp [Op.operands]));have hmx:VO ok w ρ (evO C σ T (mx.map (od ds))) (mx.map a.eval):=rG (fun y hy=>hv y (by subst hy;simp [Op.operands]));obtain ⟨ti,h1,e⟩:=aR e;have hu:=(X' _ _ h1).und
  split at e
  ·rename_i hk
   rw [hk] at hu
   split at e
   ·exact Does.pu I rfl (apP hu hx hlo hhi e)
   ·exact (cB e).elim
  ·rename_i el hk
   rw [hk] at hu;obtain ⟨ei,h2,e⟩:=aR e;exact Does.pu I rfl (amE hu (X' _ _ h2) hx hlo hhi hmx e)
  ·rename_i n el hk
   rw [hk] at hu
   split at e
   ·obtain ⟨ei,h2,e⟩:=aR e
    obtain ⟨hz,e⟩:=iK e;exact Does.pu I rfl (alo hu (X' _ _ h2) I hx hlo hhi e)
   ·exact (cB e).elim
  ·exact (cB e).elim
 case fieldAddr t x f=>
  have e:(match eU C t f with|some (off,ui)=>nz ui.size (OK.mk (o1 (aj off) (od ds x)))|none=>no).f C run σ T h κ=some rs:=e
  split at e
  ·rename_i off ui hf
   obtain ⟨hz,e⟩:=iK e;exact Does.pu I rfl (qz X' hf hz (hv x (by simp [Op.operands])) e)
  ·exact (cB e).elim
 case field t x f=>
  have e:(match eU C t f with|some (off,ui)=>bq ui.agg (OK.mk (o1 (ur off ui.size) (od ds x))) (OK.mk (o1 (vP off) (od ds x)))|none=>no).f C run σ T h κ=some rs:=e
  split at e
  ·rename_i off ui hf
   refine Does.pu I rfl (aaL X' hf (hv x (by simp [Op.operands])) ?_);rcases bqK e with ⟨ha,e⟩|⟨ha,e⟩<;>rw [ha]<;>exact e
  ·exact (cB e).elim
 case indexAddr t x i=>
  obtain ⟨ti,h1,e⟩:=aR e;have hu:=(X' _ _ h1).und
  split at e
  ·rename_i n el hk
   rw [hk] at hu;obtain ⟨ei,h2,e⟩:=aR e;exact Does.pu I rfl (ago hu (X' _ _ h2) (hv x (by simp [Op.operands])) (hv i (by simp [Op.operands])) e)
  ·rename_i el hk
   rw [hk] at hu;obtain ⟨ei,h2,e⟩:=aR e;exact Does.pu I rfl (aeX hu (X' _ _ h2) (hv x (by simp [Op.operands])) (hv i (by simp [Op.operands])) e)
  ·exact (cB e).elim
 case index t x i=>
  obtain ⟨ti,h1,e⟩:=aR e;have hu:=(X' _ _ h1).und
  split at e
  ·rename_i n el hk
   rw [hk] at hu;obtain ⟨ei,h2,e⟩:=aR e;refine Does.pu I rfl (afI hu (X' _ _ h2) (hv x (by simp [Op.operands])) (hv i (by simp [Op.operands])) ?_);rcases bqK e with ⟨ha,e⟩|⟨ha,e⟩<;>rw [ha]<;>exact e
  ·rename_i hk
   rw [hk] at hu;exact Does.pu I rfl (aeY hu (hv x (by simp [Op.operands])) (hv i (by simp [Op.operands])) e)
  ·exact (cB e).elim
 case lookup t x i cok=>
  obtain ⟨ti,h1,e⟩:=aR e
  split at e
  ·rename_i kt et hk
   have hu:=(X' _ _ h1).und;rw [hk] at hu;obtain ⟨ki,h2,e⟩:=aR e;obtain ⟨ei,h3,e⟩:=aR e;exact Does.pu I rfl (ab0 hu ⟨X' _ _ h2,X.fl _ _ h2⟩ (X' _ _ h3) I (hv x (by simp [Op.operands])) (hv i (by simp [Op.operands])) e)
  ·exact (cB e).elim
 case extract x i=>exact Does.pu I rfl (amM (hv x (by simp [Op.operands])) e)
 case call c=>exact aok X H I rfl hv e
 all_goals exact (cB e).elim
end
theorem tF (k:Nat) (v:AV) (i:Nat):bc (.lf k v) i=bq (Nat.beq i k) v .bot:=rfl
theorem iU (m:Nat) (l r:Tm) (i:Nat):bc (.nd m l r) i=bq (Nat.ble m i) (bc r i) (bc l i):=rfl
theorem afg (k:Nat) (u:AV) (i:Nat) (v:AV):iW (.lf k u) i v= .lf k (bq (Nat.beq i k) v u):=rfl
theorem zj (m:Nat) (l r:Tm) (i:Nat) (v:AV):iW (.nd m l r) i v=bq (Nat.ble m i) (.nd m l (iW r i v)) (.nd m (iW l i v) r):=rfl
theorem lq (m:Nat) (l r:Tm) (i:Nat):tin (.nd m l r) i=bq (Nat.ble m i) (tin r i) (tin l i):=rfl
theorem iD: ∀(t:Tm) (i:Nat),tin t i=false→bc t i= .bot
 | .nl,_,_=>rfl
 | .lf k v,i,h=>by rw [tF,show Nat.beq i k=false from h];rfl
 | .nd m l r,i,h=>by
   rw [lq] at h;rw [iU]
   cases hm:Nat.ble m i with
   |true=>rw [hm] at h;exact iD r i h
   |false=>rw [hm] at h;exact iD l i h
theorem gM: ∀(t:Tm) (i:Nat) (v:AV) (j:Nat),tin (iW t i v) j=tin t j
 | .nl,_,_,_=>rfl
 | .lf k u,i,v,j=>rfl
 | .nd m l r,i,v,j=>by
   rw [zj]
   cases hm:Nat.ble m i with
   |true=>rw [aA,lq,lq,gM r i v j]
   |false=>rw [aE,lq,lq,gM l i v j]
theorem eO: ∀(t:Tm) (i:Nat) (v:AV),tin t i=true→bc (iW t i v) i=v
 | .nl,_,_,h=>by cases h
 | .lf k u,i,v,h=>by rw [afg,tF,show Nat.beq i k=true from h];rfl
 | .nd m l r,i,v,h=>by
   rw [lq] at h;rw [zj]
   cases hm:Nat.ble m i with
   |true=>rw [hm] at h;rw [aA,iU,hm];exact eO r i v h
   |false=>rw [hm] at h;rw [aE,iU,hm];exact eO l i v h
theorem dP: ∀(t:Tm) (i:Nat) (v:AV) (j:Nat),j≠i→bc (iW t i v) j=bc t j
 | .nl,_,_,_,_=>rfl
 | .lf k u,i,v,j,h=>by
   rw [afg,tF,tF]
   cases hj:Nat.beq j k with
   |false=>rfl
   |true=>
    have:Nat.beq i k=false:=by
     rw [BD];intro c;exact h ((A8 hj).trans (A8 c).symm)
    rw [this];rfl
 | .nd m l r,i,v,j,h=>by
   rw [zj]
   cases hm:Nat.ble m i with
   |true=>
    rw [aA,iU,iU]
    cases Nat.ble m j with
    |true=>exact dP r i v j h
    |false=>rfl
   |false=>
    rw [aE,iU,iU]
    cases Nat.ble m j with
    |true=>rfl
    |false=>exact dP l i v j h
theorem zl: ∀(σ:List AV) (i:Nat),oY σ i=(σ[i]?).getD .bot
 |[],_=>rfl
 |a::r,0=>rfl
 |a::r,i+1=>by rw [BA];exact zl r i
section
variable {P:Program} {C:Cx} {ok:Nat→Prop} {w:World} {ρ:Rho} {h:AH}
structure TOk (ok:Nat→Prop) (w:World) (ρ:Rho) (ps:List Nat) (n:Nat) (t:Tms) (tmps:Array Value):Prop where
 size:n≤tmps.size
 inn: ∀i,tin t i=true→i∈ps
 low: ∀i∈ps,i<n
 get: ∀i,V ok w (bc t i) ρ (tmps.getD i undef)
structure RI (ok:Nat→Prop) (w:World) (ρ:Rho) (ds:List (Option Nat)) (σ:List AV) (t:Tms) (tmps:Array Value):Prop where
 st: ∀d i,dq d ds=some i→V ok w (oY σ i) ρ (tmps.getD d undef)
 tr: ∀d,dq d ds=none→V ok w (bc t d) ρ (tmps.getD d undef)
theorem TOk.ri {ps:List Nat} {n:Nat} {t:Tms} {tmps:Array Value} (T:TOk ok w ρ ps n t tmps):RI ok w ρ [] [] t tmps:=⟨fun d i e=>by (cases e),fun d _=>T.get d⟩
theorem ane (v:Value) (hv: ∀cs,v≠ .agg cs):V ok w (cv1 v) ρ v:=by
 unfold cv1
 split
 all_goals simp only [V]
 ·exact ⟨_,rfl,rfl⟩
 ·exact ⟨_,rfl,by rw [dA]⟩
theorem ano (v:Value):V ok w (cv v) ρ v:=by
 unfold cv
 split
 ·rename_i cs
  simp only [V];refine ⟨cs,rfl,?_⟩;rw [dA]
  have: ∀l:List Value,VL ok w (l.map cv1) ρ l:=by
   intro l
   induction l with
   |nil=>simp [VL]
   |cons a l ih=>
    simp only [BS,VL];refine ⟨_,_,rfl,?_,ih⟩
    by_cases ha: ∃cs,a= .agg cs
    ·obtain ⟨cs,rfl⟩:=ha
     simp only [cv1,V]
    ·exact ane a (fun cs e=>ha ⟨cs,e⟩)
  exact this _
 ·exact ane v (by assumption)
theorem ajM (I:Inv C ok w ρ h) (g:Nat):V ok w (glV C g) ρ (.pointer (some ⟨g,0,none⟩)):=by
 unfold glV
 split
 ·rename_i cs hg
  obtain ⟨h1,h2⟩:=I.gl g cs hg;simp only [V];exact ⟨g,0,h1,rfl,h2⟩
 ·simp only [V]
theorem RI.operand (I:Inv C ok w ρ h) {ds:List (Option Nat)} {σ:List AV} {t:Tms} {a:Act} (R:RI ok w ρ ds σ t a.tmps) (x:Operand):V ok w (ev C σ t (od ds x)) ρ (a.eval x):=by
 cases x with
 |tmp d=>
  have e:od ds (.tmp d)=(match dq d ds with|some i=>Od.st i|none=>Od.tr d):=rfl;rw [e]
  cases hd:dq d ds with
  |some i=>exact R.st d i hd
  |none=>exact R.tr d hd
 |const v=>exact ano v
 |global g=>exact ajM I g
 |func f=>
  show V ok w (.fn f [] []) ρ (.func (.func f) #[] #[]);simp only [V,VL];exact ⟨#[], #[],rfl,rfl,rfl⟩
theorem RI.up {ok':Nat→Prop} {w':World} {ρ':Rho} {ds:List (Option Nat)} {σ:List AV} {t:Tms} {tmps:Array Value} (U:Up ok w ρ ok' w' ρ') (R:RI ok w ρ ds σ t tmps):RI ok' w' ρ' ds σ t tmps:=
 ⟨fun d i e=>V.up _ U (R.st d i e),fun d e=>V.up _ U (R.tr d e)⟩
theorem ju (tmps:Array Value) (i j:Nat) (u:Value):(tmps.setIfInBounds i u).getD j undef=if i=j∧i<tmps.size then u else tmps.getD j undef:=by
 simp only [Bz,Cp]
 by_cases hij:i=j
 ·subst hij
  by_cases hs:i<tmps.size
  ·simp [hs]
  ·simp [hs]
 ·simp [hij]
theorem RI.push {ds:List (Option Nat)} {σ:List AV} {t:Tms} {a:Act} (R:RI ok w ρ ds σ t a.tmps) {D:Option Nat} {v:AV} {u:Value} (hv:V ok w v ρ u) (hD: ∀d,D=some d→d<a.tmps.size):RI ok w ρ (D::ds) (v::σ) t (a.put D u).tmps:=by
 cases D with
 |none=>
  refine ⟨fun d i e=>?_,fun d e=>?_⟩
  ·simp only [dq] at e
   cases hi:dq d ds with
   |none=>rw [hi] at e;cases e
   |some j=>rw [hi] at e;cases e;exact R.st d j hi
  ·simp only [dq] at e
   cases hi:dq d ds with
   |none=>exact R.tr d hi
   |some j=>rw [hi] at e;cases e
 |some D=>
  have hs:=hD D rfl;have hg: ∀d,(a.put (some D) u).tmps.getD d undef=if D=d then u else a.tmps.getD d undef:=by
   intro d;show (a.tmps.setIfInBounds D u).getD d undef=_;rw [ju]
   by_cases h:D=d
   ·rw [if_pos ⟨h,hs⟩,if_pos h]
   ·rw [if_neg (fun c=>h c.1),if_neg h]
  refine ⟨fun d i e=>?_,fun d e=>?_⟩
  ·rw [hg]
   simp only [dq] at e
   split at e
   ·next h=>cases e;rw [if_pos h.symm];exact hv
   ·next h=>
    rw [if_neg (fun c=>h c.symm)]
    cases hi:dq d ds with
    |none=>rw [hi] at e;cases e
    |some j=>rw [hi] at e;cases e;exact R.st d j hi
  ·rw [hg]
   simp only [dq] at e
   split at e
   ·cases e
   ·next h=>
    rw [if_neg (fun c=>h c.symm)]
    cases hi:dq d ds with
    |none=>exact R.tr d hi
    |some j=>rw [hi] at e;cases e
theorem nY (σ:List AV) (t:Tms): ∀(fl:List (Nat×Nat)) (j:Nat),tin (cx σ t fl) j=tin t j
 |[],_=>rfl
 |p::fl,j=>(gM (cx σ t fl) p.1 (oY σ p.2) j).trans (nY σ t fl j)
theorem xN (σ:List AV) (t:Tms) (j:Nat) (hj:tin t j=true): ∀(fl:List (Nat×Nat)),(bc (cx σ t fl) j=bc t j∧ ∀i,(j,i)∉fl)∨ ∃i,(j,i)∈fl∧bc (cx σ t fl) j=oY σ i
 |[]=>.inl ⟨rfl,by simp⟩
 |p::fl=>by
  show (bc (iW (cx σ t fl) p.1 (oY σ p.2)) j=_∧_)∨ ∃i,_∧bc (iW (cx σ t fl) p.1 (oY σ p.2)) j=_
  by_cases h:j=p.1
  ·right
   refine ⟨p.2,by rw [h];simp,?_⟩
   rw [h];exact eO _ _ _ (by rw [nY];exact h▸hj)
  ·rw [dP _ _ _ _ h]
   rcases xN σ t j hj fl with ⟨h1,h2⟩|⟨i,h1,h2⟩
   ·refine .inl ⟨h1,fun i hi=>?_⟩
    rcases Bv.1 hi with hi|hi
    ·exact h (by rw [←hi])
    ·exact h2 i hi
   ·exact .inr ⟨i,Bh _ h1,h2⟩
theorem tO (ps:List Nat): ∀(ds:List (Option Nat)) (k:Nat) (done:List Nat),(∀d i,(d,i)∈j9 ps k ds done→ ∃j,dq d ds=some j∧i=k+j)∧(∀d j,d∈ps→d∉done→dq d ds=some j→(d,k+j)∈j9 ps k ds done)
 |[],k,done=>⟨by simp [j9],by simp [dq]⟩
 |none::r,k,done=>by
  obtain ⟨h1,h2⟩:=tO ps r (k+1) done;refine ⟨fun d i h=>?_,fun d j hp hd h=>?_⟩
  ·obtain ⟨j,e1,e2⟩:=h1 d i h
   exact ⟨j+1,by simp [dq,e1],by omega⟩
  ·simp only [dq] at h
   cases hr:dq d r with
   |none=>rw [hr] at h;cases h
   |some j'=>
    rw [hr] at h;cases h
    have:=h2 d j' hp hd hr
    rwa [show k+1+j'=k+(j'+1) by omega] at this
 |some a::r,k,done=>by
  by_cases hc:(ps.contains a&& !done.contains a)=true
  ·obtain ⟨h1,h2⟩:=tO ps r (k+1) (a::done)
   have e:j9 ps k (some a::r) done=(a,k)::j9 ps (k+1) r (a::done):=by simp only [j9,hc,if_true]
   rw [e];refine ⟨fun d i h=>?_,fun d j hp hd h=>?_⟩
   ·rcases Bv.1 h with h|h
    ·cases h;exact ⟨0,by simp [dq],rfl⟩
    ·obtain ⟨j,e1,e2⟩:=h1 d i h
     by_cases hda:d=a
     ·exfalso
      subst hda
      have: ∀(l:List (Option Nat)) (k:Nat) (dn:List Nat),d∈dn→ ∀i,(d,i)∉j9 ps k l dn:=by
       intro l
       induction l with
       |nil=>intro k dn _ i hi;simp [j9] at hi
       |cons x l ih=>
        intro k dn hdn i hi
        cases x with
        |none=>exact ih (k+1) dn hdn i hi
        |some b=>
         simp only [j9] at hi
         split at hi
         ·next hb=>
          rcases Bv.1 hi with hi|hi
          ·cases hi
           simp [hdn] at hb
          ·exact ih (k+1) (b::dn) (Bh _ hdn) i hi
         ·exact ih (k+1) dn hdn i hi
      exact this r (k+1) (d::done) (by simp) i h
     ·exact ⟨j+1,by simp [dq,hda,e1],by omega⟩
   ·simp only [dq] at h
    split at h
    ·next hda=>cases h;subst hda;simp
    ·next hda=>
     cases hr:dq d r with
     |none=>rw [hr] at h;cases h
     |some j'=>
      rw [hr] at h;cases h
      have:=h2 d j' hp (by simp [hda,hd]) hr
      rw [show k+1+j'=k+(j'+1) by omega] at this;exact Bh _ this
  ·obtain ⟨h1,h2⟩:=tO ps r (k+1) done
   have e:j9 ps k (some a::r) done=j9 ps (k+1) r done:=by simp only [j9,hc];simp
   rw [e];have hcases:a∉ps∨a∈done:=by
    rcases Classical.em (a∈ps) with h|h
    ·rcases Classical.em (a∈done) with h'|h'
     ·exact .inr h'
     ·exfalso;apply hc;simp [h,h']
    ·exact .inl h
   refine ⟨fun d i h=>?_,fun d j hp hd h=>?_⟩
   ·obtain ⟨j,e1,e2⟩:=h1 d i h
    by_cases hda:d=a
    ·exfalso
     subst hda
     have: ∀(l:List (Option Nat)) (k:Nat) (dn:List Nat),(d∉ps∨d∈dn)→ ∀i,(d,i)∉j9 ps k l dn:=by
      intro l
      induction l with
      |nil=>intro k dn _ i hi;simp [j9] at hi
      |cons x l ih=>
       intro k dn hdn i hi
       cases x with
       |none=>exact ih (k+1) dn hdn i hi
       |some b=>
        simp only [j9] at hi
        split at hi
        ·next hb=>
         rcases Bv.1 hi with hi|hi
         ·cases hi
          rcases hdn with hdn|hdn<;>simp [hdn] at hb
         ·exact ih (k+1) (b::dn) (hdn.imp id (Bh _)) i hi
        ·exact ih (k+1) dn hdn i hi
     exact this r (k+1) done hcases i h
    ·exact ⟨j+1,by simp [dq,hda,e1],by omega⟩
   ·simp only [dq] at h
    split at h
    ·next hda=>subst hda;rcases hcases with hc'|hc'
               ·exact absurd hp hc'
               ·exact absurd hc' hd
    ·next hda=>
     cases hr:dq d r with
     |none=>rw [hr] at h;cases h
     |some j'=>
      rw [hr] at h;cases h
      have:=h2 d j' hp hd hr
      rwa [show k+1+j'=k+(j'+1) by omega] at this
theorem RI.flush {ps:List Nat} {n:Nat} {ds:List (Option Nat)} {σ:List AV} {t:Tms} {tmps:Array Value} (R:RI ok w ρ ds σ t tmps) (hs:n≤tmps.size) (hi: ∀i,tin t i=true→i∈ps) (hl: ∀i∈ps,i<n):TOk ok w ρ ps n (cx σ t (j9 ps 0 ds [])) tmps:=by
 obtain ⟨f1,f2⟩:=tO ps ds 0 [];refine ⟨hs,fun i h=>hi i (by rw [nY] at h;exact h),hl,fun j=>?_⟩
 cases hj:tin t j with
 |false=>
  rw [iD _ _ (by rw [nY];exact hj)]
  simp only [V]
 |true=>
  rcases xN σ t j hj (j9 ps 0 ds []) with ⟨h1,h2⟩|⟨i,h1,h2⟩
  ·rw [h1]
   cases hd:dq j ds with
   |none=>exact R.tr j hd
   |some i=>exact absurd (f2 j i (hi j hj) (by simp) hd) (h2 _)
  ·rw [h2]
   obtain ⟨i',e1,e2⟩:=f1 j i h1;rw [e2,BE];exact R.st j i' e1
end
section
variable {P:Program} {C:Cx} {ok:Nat→Prop} {w:World} {ρ:Rho} {h:AH} {κ:Ka} {rs:Rs} {run:Run}
def apB (P:Program) (C:Cx) (ops:Array Oper) (i:Nat) (D:Option Nat) (a:Act) (ok:Nat→Prop) (w:World) (ρ:Rho) (h:AH) (κ:Ka) (rs:Rs):Prop:=
 ∃v h',κ v h'=some rs∧ ∀K Q,(∀u w' ok' ρ',Ext ok w ρ h ok' w' ρ' h'→Inv C ok' w' ρ' h'→V ok' w' v ρ' u→K (a.put D u) w')→wpOp P ops Q i K a w
theorem sE {a:Act} {ops:Array Oper} {j d:Nat} {p:Oper} (hj:ops[j]? =some p) (hd:p.dst=some d):(∀b,a.tmps.getD d undef= .bool b→yielded ops a.tmps j=some b)∧(a.tmps.getD d undef= .tuple #[]→yielded ops a.tmps j=none):=by
 have e:yielded ops a.tmps j=(match a.tmps[d]? with|some (.bool b)=>some b|_=>none):=by
  unfold yielded;rw [hj];simp only [Option.bind_some,hd];rfl
 rw [e];simp only [Bz]
 cases hg:a.tmps[d]? with
 |none=>exact ⟨fun b h=>(by cases h),fun _=>rfl⟩
 |some x=>exact ⟨fun b h=>by simp at h;rw [h],fun h=>by simp at h;rw [h]⟩
theorem tU (X:c7 P C) (H:dB P C run) (I:Inv C ok w ρ h) {ops:Array Oper} {i:Nat} {o:Oper} (hi:ops[i]? =some o) {ds:List (Option Nat)} {σ:List AV} {T:Tms} {a:Act} (hv: ∀x,(x∈o.op.operands∨ ∃d,x= .tmp d∧d∈o.looksAt ops)→V ok w (ev C σ T (od ds x)) ρ (a.eval x))
 (e:(jV C ops.toList ds o).f C run σ T h κ=some rs):apB P C ops i o.dst a ok w ρ h κ rs:=by
 have op:(opK C ds o.op).f C run σ T h κ=some rs→Does P C o a ok w ρ h κ rs:=aw5 X H I (fun x hx=>hv x (.inl hx));unfold jV gdK at e
 split at e
 ·rename_i hg
  obtain ⟨v,h',k1,k2⟩:=op e;refine ⟨v,h',k1,fun K Q hn=>?_⟩;unfold wpOp;rw [hi];simp only [Region.wanted,hg,if_true];exact .inl (k2 K Q hn)
 ·rename_i x hg
  obtain ⟨j,want⟩:=x
  split at e
  ·rename_i p hp
   rw [bI,Bk] at hp
   split at e
   ·rename_i d hd
    obtain ⟨b,e1,e2⟩:=ai (show au (xS (ev C σ T (od ds (.tmp d))) want) _=some rs from e);have hvd:=hv (.tmp d) (.inr ⟨d,rfl,by
     unfold Oper.looksAt;rw [hg];exact C7 _ (by simp [hp,hd])⟩)
    obtain ⟨y1,y2⟩:=sE (a:=a) hp hd;have hw:Region.wanted o (yielded ops a.tmps)=b:=by
     unfold Region.wanted;rw [hg];show (yielded ops a.tmps j==some want)=b
     cases hx:ev C σ T (od ds (.tmp d))<;>rw [hx] at e1 hvd<;>try (cases e1;done)
     ·simp only [V] at hvd
      cases e1
      rw [y1 _ hvd,lF];rfl
     ·rename_i cs
      cases cs with
      |nil=>
       cases e1
       simp only [V,VL] at hvd;obtain ⟨us,h1,h2⟩:=hvd
       have:us= #[]:=by apply Dn;simpa using h2
       rw [y2 (by rw [←this];exact h1)]
       rfl
      |cons c cs=>cases e1
    cases b with
    |true=>
     obtain ⟨v,h',k1,k2⟩:=op e2;refine ⟨v,h',k1,fun K Q hn=>?_⟩;unfold wpOp;rw [hi];simp only [hw,if_true];exact .inl (k2 K Q hn)
    |false=>
     refine ⟨.tup [],h,e2,fun K Q hn=>?_⟩;unfold wpOp;rw [hi];simp only [hw,BR,if_false];exact hn undef w ok ρ (Ext.refl _ _ _ _) I (by simp only [V];exact ⟨#[],rfl,by simp [VL]⟩)
   ·exact (cB e).elim
  ·exact (cB e).elim
theorem fe (a:Act) (D:Option Nat) (u:Value):(a.put D u).tmps.size=a.tmps.size∧(a.put D u).defers=a.defers:=by
 cases D<;>simp [Act.put]
theorem yV (X:c7 P C) (H:dB P C run) {ops:Array Oper} {n:Nat} (hb: ∀o∈ops.toList,opB n o=true) (fl:List (Nat×Nat)) (T:Tms): ∀(l:List Oper) (k:Nat) {ok:Nat→Prop} {w:World} {ρ:Rho} {h:AH} {ds:List (Option Nat)} {σ:List AV} {a:Act},
 ops.toList.drop k=l→n≤a.tmps.size→Inv C ok w ρ h→RI ok w ρ ds σ T a.tmps→gW C run fl T (bo C ops.toList ds l) σ h=some rs→
 ∀Q,(∀a' w' ok' ρ' σ' h',rs= .st (cx σ' T fl) h'→Ext ok w ρ h ok' w' ρ' h'→Inv C ok' w' ρ' h'→RI ok' w' ρ' ((l.map (·.dst)).reverse++ds) σ' T a'.tmps→a'.tmps.size=a.tmps.size→a'.defers=a.defers→Q .normal a' w')→wpOps P ops Q (List.range' k l.length) a w
 |[],k,ok,w,ρ,h,ds,σ,a,hk,hs,I,R,e=>by
  cases e
  intro Q hQ;exact hQ a w ok ρ σ h rfl (Ext.refl _ _ _ _) I R rfl rfl
 |o::l,k,ok,w,ρ,h,ds,σ,a,hk,hs,I,R,e=>by
  have hlt:k<ops.toList.length:=by
   rcases BN k ops.toList.length with hl|hl
   ·exact hl
   ·rw [Cw hl] at hk;cases hk
  have hko:ops[k]? =some o:=by
   rw [←Bk]
   have:=congrArg (·[0]?) hk
   simpa using this
  have hmem:o∈ops.toList:=Bg (by rw [Bk];exact hko)
  have hk':ops.toList.drop (k+1)=l:=by
   have:=congrArg (·.drop 1) hk
   simpa [Dt] using this
  have e:(jV C ops.toList ds o).f C run σ T h (fun v=>gW C run fl T (bo C ops.toList (o.dst::ds) l) (v::σ))=some rs:=e;obtain ⟨v,h1,e1,k1⟩:=tU X H I hko (fun x _=>R.operand I x) e;have hD: ∀d,o.dst=some d→d<a.tmps.size:=by
   intro d hd
   have:=hb o hmem
   unfold opB at this;rw [hd] at this
   have:d<n:=by simpa [Ce] using this
   exact Bm this hs
  intro Q hQ;show wpOps P ops Q (k::List.range' (k+1) l.length) a w;rw [wpOps_cons];refine k1 _ Q (fun u w1 ok1 ρ1 E1 I1 V1=>?_);refine yV X H hb fl T l (k+1) hk' (by rw [(fe a o.dst u).1];exact hs) I1 ((R.up E1.up).push V1 hD) e1 Q (fun a' w' ok' ρ' σ' h' q1 q2 q3 q4 q5 q6=>?_);refine hQ a' w' ok' ρ' σ' h' q1 (Ext.trans I E1 q2) q3 ?_ (q5.trans (fe a o.dst u).1) (q6.trans (fe a o.dst u).2)
  simpa using q4
theorem wS (X:c7 P C) (H:dB P C run) {ops:Array Oper} {n:Nat} {ps:List Nat} (hb: ∀o∈ops.toList,opB n o=true) {T:Tms} {a:Act} (I:Inv C ok w ρ h) (TT:TOk ok w ρ ps n T a.tmps) {T':Tms} {h':AH}
 (e:gW C run (flL ps ops.toList) T (bo C ops.toList [] ops.toList) [] h=some (.st T' h')) (Q:Exit→Act→World→Prop) (hQ: ∀a' w' ok' ρ',Ext ok w ρ h ok' w' ρ' h'→Inv C ok' w' ρ' h'→TOk ok' w' ρ' ps n T' a'.tmps→a'.defers=a.defers→Q .normal a' w'):
 wpOps P ops Q (List.range ops.size) a w:=by
 rw [show List.range ops.size=List.range' 0 ops.toList.length by rw [Bt];exact Dg]
 refine yV X H hb _ T ops.toList 0 rfl TT.size I TT.ri e Q (fun a' w' ok' ρ' σ' h'' q1 q2 q3 q4 q5 q6=>?_)
 cases q1
 refine hQ a' w' ok' ρ' q2 q3 ?_ q6;unfold flL;have q4:RI ok' w' ρ' (ops.toList.map (·.dst)).reverse σ' T a'.tmps:=by simpa using q4
 exact q4.flush (by rw [q5];exact TT.size) TT.inn TT.low
end
def cI (P:Program) (o:Oper) (a:Act) (ok:Nat→Prop) (w:World) (ρ:Rho) (h:AH) (κ:Ka) (rs:Rs):Prop:=
 ∃v,κ v h=some rs∧ ∀next Q,(∀u,V ok w v ρ u→next (a.put o.dst u) w)→o.wp P a w next Q
section
variable {P:Program} {C:Cx} {ok:Nat→Prop} {w:World} {ρ:Rho} {h:AH} {κ:Ka} {rs:Rs} {a:Act} {run:Run} {ds:List (Option Nat)} {σ:List AV} {T:Tms}
theorem cI.now {o:Oper} {x:Value} {v:AV} (he:(execOp a.eval o).run P w= .ok (.value x) w) (e:κ v h=some rs) (hv:V ok w v ρ x):cI P o a ok w ρ h κ rs:=by
 refine ⟨v,e,fun next Q hn=>?_⟩;unfold Oper.wp;rw [he];exact hn x hv
theorem cI.pu {o:Oper} {s:Sem Value} (he:execOp a.eval o=(do pure (.value (←s)))) (p:Pu P ok w ρ h κ rs s):cI P o a ok w ρ h κ rs:=by
 obtain ⟨v,x,h1,h2,h3⟩:=p;exact .now (by rw [he];simp [h3]) h1 h2
theorem anH (X:c7 P C) (I:Inv C ok w ρ h) {o:Oper} {c:Call} (ho:o.op= .call c) (hr:rdB C (.call c)=true) (hv: ∀x∈o.op.operands,V ok w (ev C σ T (od ds x)) ρ (a.eval x)) (e:(qw C c ds).f C run σ T h κ=some rs):cI P o a ok w ρ h κ rs:=by
 obtain ⟨dst,op,type,pos,after,guard⟩:=o;simp only at ho;subst ho;obtain ⟨callee,args,argTypes⟩:=c;have hargs: ∀x∈args.toList,V ok w (ev C σ T (od ds x)) ρ (a.eval x):=fun x hx=>hv x (by
  show x∈Call.operands ⟨callee,args,argTypes⟩;exact CQ.2 (.inr (BP.1 hx)))
 have hL:=ss (C:=C) (σ:=σ) (T:=T) (ds:=ds) hargs;have harr:(args.toList.map a.eval).toArray=args.map a.eval:=by
  apply Dn;rw [Dl,Cu]
 have two: ∀{x y:Operand},args.toList=[x,y]→args.map a.eval= #[a.eval x,a.eval y]:=by
  intro x y hl;rw [←harr,hl];rfl
 have single: ∀{x:Operand},args.toList=[x]→args.map a.eval= #[a.eval x]:=by
  intro x hl;rw [←harr,hl];rfl
 have fst: ∀{t:Nat} {l:List Nat},argTypes.toList=t::l→argTypes[0]? =some t:=by
  intro t l hl;rw [←Bk,hl];rfl
 have snd: ∀{t u:Nat} {l:List Nat},argTypes.toList=t::u::l→argTypes[1]? =some u:=by
  intro t u l hl;rw [←Bk,hl];rfl
 unfold qw at e
 split at e
 ·rename_i f hf
  simp only at hf;subst hf
  cases hr
 ·rename_i f hf hcal
  simp only at hcal;subst hcal
  cases hr
 ·rename_i hcal
  simp only at hcal;subst hcal
  split at e
  ·rename_i x t tl hl ht
   simp only at hl ht;obtain ⟨ti,h1,e⟩:=aR e;have hu:=(X.ty _ _ h1).und;have hx:=hargs x (by rw [hl];simp);have he:execOp a.eval ⟨dst,.call ⟨.builtin .len,args,argTypes⟩,type,pos,after,guard⟩=(do pure (.value (←Builtin.len_ argTypes type #[a.eval x]))):=by
    rw [←single hl];rfl
   split at e
   ·rename_i hk;rw [hk] at hu
    exact cI.pu he (afj (fst ht) hu hx e)
   ·rename_i hk;rw [hk] at hu
    exact cI.pu he (afo (fst ht) hu hx e)
   ·rename_i hk;rw [hk] at hu
    exact cI.pu he (afW (fst ht) hu I hx e)
   ·rename_i n el hk;rw [hk] at hu
    refine cI.pu he ⟨_,_,e,eE .i64 _,?_⟩;simp only [kg] at hu
    simp [Builtin.len_,fst ht,underlying,hu,goInt]
   ·exact (cB e).elim
  ·exact (cB e).elim
 ·rename_i hcal
  simp only at hcal;subst hcal
  cases hr
 ·rename_i hcal
  simp only at hcal;subst hcal
  cases hr
 ·rename_i hcal
  simp only at hcal;subst hcal
  split at e
  ·rename_i x y hl
   simp only at hl;have he:execOp a.eval ⟨dst,.call ⟨.builtin .min,args,argTypes⟩,type,pos,after,guard⟩=(do pure (.value (←Builtin.min_ argTypes type #[a.eval x,a.eval y]))):=by
    rw [←two hl];rfl
   exact cI.pu he (nZ (ts:=argTypes) (ty:=type) false (hargs x (by rw [hl];simp)) (hargs y (by rw [hl];simp)) e)
  ·exact (cB e).elim
 ·rename_i hcal
  simp only at hcal;subst hcal
  split at e
  ·rename_i x y hl
   simp only at hl;have he:execOp a.eval ⟨dst,.call ⟨.builtin .max,args,argTypes⟩,type,pos,after,guard⟩=(do pure (.value (←Builtin.max_ argTypes type #[a.eval x,a.eval y]))):=by
    rw [←two hl];rfl
   exact cI.pu he (nZ (ts:=argTypes) (ty:=type) true (hargs x (by rw [hl];simp)) (hargs y (by rw [hl];simp)) e)
  ·exact (cB e).elim
 ·rename_i hcal
  simp only at hcal;subst hcal
  cases hr
 ·rename_i hcal
  simp only at hcal;subst hcal
  cases hr
 ·exact (cB e).elim
set_option maxHeartbeats 1600000 in
theorem axr (X:c7 P C) (I:Inv C ok w ρ h) {o:Oper} (hr:rdB C o.op=true) (hv: ∀x∈o.op.operands,V ok w (ev C σ T (od ds x)) ρ (a.eval x)) (e:(opK C ds o.op).f C run σ T h κ=some rs):cI P o a ok w ρ h κ rs:=by
 obtain ⟨dst,op,type,pos,after,guard⟩:=o;have X':=X.ty;simp only at hr
 cases op
 case move x=>exact cI.now rfl e (hv x (by simp [Op.operands]))
 case assign x=>exact cI.now rfl e (hv x (by simp [Op.operands]))
 case pick c x y=>
  obtain ⟨b,h1,e1⟩:=ph (show nL _ _=some rs from e);have hc:=hv c (by simp [Op.operands]);have hx:=hv x (by simp [Op.operands]);have hy:=hv y (by simp [Op.operands]);rw [h1] at hc;simp only [V] at hc;refine cI.now (x:=if b then a.eval x else a.eval y) ?_ e1 (by cases b<;>assumption);show (do pure (.value (if ←asBool (a.eval c) then a.eval x else a.eval y)):Sem Next).run P w=_;rw [hc];rfl
 case alloc el=>exact absurd hr (by simp [rdB,mkB,eF])
 case box el x=>exact absurd hr (by simp [rdB,mkB,eF])
 case build t ps=>
  obtain ⟨ti,h1,e⟩:=aR e;have hp:VP ok w ρ (evP C σ T (ps.toList.map fun p=>(p.1,od ds p.2))) (ps.map fun p=>(p.1,a.eval p.2)).toList:=by
   rw [Cu];exact adx (fun x hx=>hv x (by
    show x∈(ps.toList.map (·.2)).toArray
    simpa using hx))
  split at e
  ·rename_i fs hk
   rcases bqK e with ⟨ha,e⟩|⟨_,e⟩
   ·exact cI.pu rfl (lZ X' (X' _ _ h1) hk ha hp e)
   ·exact (cB e).elim
  ·rename_i n el hk
   obtain ⟨ei,h2,e⟩:=aR e;exact cI.pu rfl (nt (X' _ _ h1) hk (X' _ _ h2) hp e)
  ·exact (cB e).elim
 case buildSlice t n ps=>exact absurd hr (by simp [rdB,mkB,eF])
 case insert t m k x=>exact absurd hr (by simp [rdB,mkB,eF])
 case mapUpdate t m k x=>exact absurd hr (by simp [rdB,mkB,eF])
 case load t p=>
  obtain ⟨ti,h1,e⟩:=aR e;rcases bqK e with ⟨ha,e⟩|⟨ha,e⟩
  ·exact cI.pu rfl (uw (X' _ _ h1) ha I (hv p (by simp [Op.operands])) e)
  ·exact cI.pu rfl (uW (X' _ _ h1) ha I (hv p (by simp [Op.operands])) e)
 case store t p x=>exact absurd hr (by simp [rdB,mkB,eF])
 case nilCheck x=>
  have hx:=hv x (by simp [Op.operands]);obtain ⟨k1,k2⟩:=aad (P:=P) (o:=⟨dst,.nilCheck x,type,pos,after,guard⟩) (a:=a) rfl rfl hx (show aM _ h κ=some rs from e);exact cI.now k2 k1 hx
 case binOp op t x y ty=>
  obtain ⟨ti,h1,e⟩:=aR e;exact cI.pu rfl (agG X h1 (hv x (by simp [Op.operands])) (hv y (by simp [Op.operands])) e)
 case unOp op t x=>
  obtain ⟨ti,h1,e⟩:=aR e;exact cI.pu rfl (apr (hv x (by simp [Op.operands])) e)
 case convert s d x=>
  obtain ⟨si,h1,e⟩:=aR e;obtain ⟨di,h2,e⟩:=aR e;have hs:sliceTo C d=false:=by
   have hr:(!qK C s d&& !(sliceTo C d&& !qK C s d))=true:=hr
   cases h1:qK C s d<;>cases h2:sliceTo C d<;>simp [h1,h2] at hr ⊢
  have hx:=hv x (by simp [Op.operands]);have us:=(X.ty _ _ h1).und;have ud:=(X.ty _ _ h2).und;unfold iO at e
  split at e
  ·rename_i k1 k2
   rw [k1] at us;rw [k2] at ud
   exact cI.pu rfl (anJ (si:=si) us ud hx e)
  ·rename_i k1 k2
   rw [k1] at us;rw [k2] at ud
   obtain ⟨l,g1,e1⟩:=fj (show ij _ _=some rs from e);rw [g1] at hx;have hx':=hx;simp only [V] at hx;obtain ⟨S,hS,_⟩:=hx;simp only [kg] at us ud;refine cI.pu (s:=convert s d (a.eval x)) rfl ⟨_,_,e1,hx',?_⟩;rw [hS]
   simp [convert,underlying,us,ud]
  ·rename_i el k1 k2
   unfold sliceTo at hs;rw [h2] at hs;simp only [k2] at hs
   cases hs
  ·rename_i el k1 k2
   rw [k1] at us;rw [k2] at ud
   rcases bqK e with ⟨h8,e⟩|⟨_,e⟩
   ·exact cI.pu rfl (sO us ud (pZ X h8) I hx e)
   ·exact (cB e).elim
  ·rename_i el1 el k1 k2
   unfold sliceTo at hs;rw [h2] at hs;simp only [k2] at hs
   cases hs
  ·exact (cB e).elim
 case makeFunc fn fi ca=>
  cases fn<;>try (exact (cB e).elim)
  rename_i f
  refine cI.now (x:=.func (.func f) (fi.map a.eval) (ca.map a.eval)) rfl (show κ (.fn f _ _) h=some rs from e) ?_;simp only [V];refine ⟨_,_,rfl,?_,?_⟩
  ·rw [Cu]
   exact ss (fun x hx=>hv x (by
    show x∈fi++ca;exact CQ.2 (.inl (BP.1 hx))))
  ·rw [Cu]
   exact ss (fun x hx=>hv x (by
    show x∈fi++ca;exact CQ.2 (.inr (BP.1 hx))))
 case makeMap t r=>exact absurd hr (by simp [rdB,mkB,eF])
 case makeSlice t l c=>exact absurd hr (by simp [rdB,mkB,eF])
 case slice t x lo hi mx=>
  have hx:=hv x (by simp [Op.operands]);have hlo:VO ok w ρ (evO C σ T (lo.map (od ds))) (lo.map a.eval):=rG (fun y hy=>hv y (by subst hy;simp [Op.operands]));have hhi:VO ok w ρ (evO C σ T (hi.map (od ds))) (hi.map a.eval):=rG (fun y hy=>hv y (by subst hy;simp [Op.operands]));have hmx:VO ok w ρ (evO C σ T (mx.map (od ds))) (mx.map a.eval):=rG (fun y hy=>hv y (by subst hy;simp [Op.operands]));obtain ⟨ti,h1,e⟩:=aR e;have hu:=(X' _ _ h1).und
  split at e
  ·rename_i hk
   rw [hk] at hu
   split at e
   ·exact cI.pu rfl (apP hu hx hlo hhi e)
   ·exact (cB e).elim
  ·rename_i el hk
   rw [hk] at hu;obtain ⟨ei,h2,e⟩:=aR e;exact cI.pu rfl (amE hu (X' _ _ h2) hx hlo hhi hmx e)
  ·rename_i n el hk
   rw [hk] at hu
   split at e
   ·obtain ⟨ei,h2,e⟩:=aR e
    obtain ⟨hz,e⟩:=iK e;exact cI.pu rfl (alo hu (X' _ _ h2) I hx hlo hhi e)
   ·exact (cB e).elim
  ·exact (cB e).elim
 case fieldAddr t x f=>
  have e:(match eU C t f with|some (off,ui)=>nz ui.size (OK.mk (o1 (aj off) (od ds x)))|none=>no).f C run σ T h κ=some rs:=e
  split at e
  ·rename_i off ui hf
   obtain ⟨hz,e⟩:=iK e;exact cI.pu rfl (qz X' hf hz (hv x (by simp [Op.operands])) e)
  ·exact (cB e).elim
 case field t x f=>
  have e:(match eU C t f with|some (off,ui)=>bq ui.agg (OK.mk (o1 (ur off ui.size) (od ds x))) (OK.mk (o1 (vP off) (od ds x)))|none=>no).f C run σ T h κ=some rs:=e
  split at e
  ·rename_i off ui hf
   refine cI.pu rfl (aaL X' hf (hv x (by simp [Op.operands])) ?_);rcases bqK e with ⟨ha,e⟩|⟨ha,e⟩<;>rw [ha]<;>exact e
  ·exact (cB e).elim
 case indexAddr t x i=>
  obtain ⟨ti,h1,e⟩:=aR e;have hu:=(X' _ _ h1).und
  split at e
  ·rename_i n el hk
   rw [hk] at hu;obtain ⟨ei,h2,e⟩:=aR e;exact cI.pu rfl (ago hu (X' _ _ h2) (hv x (by simp [Op.operands])) (hv i (by simp [Op.operands])) e)
  ·rename_i el hk
   rw [hk] at hu;obtain ⟨ei,h2,e⟩:=aR e;exact cI.pu rfl (aeX hu (X' _ _ h2) (hv x (by simp [Op.operands])) (hv i (by simp [Op.operands])) e)
  ·exact (cB e).elim
 case index t x i=>
  obtain ⟨ti,h1,e⟩:=aR e;have hu:=(X' _ _ h1).und
  split at e
  ·rename_i n el hk
   rw [hk] at hu;obtain ⟨ei,h2,e⟩:=aR e;refine cI.pu rfl (afI hu (X' _ _ h2) (hv x (by simp [Op.operands])) (hv i (by simp [Op.operands])) ?_);rcases bqK e with ⟨ha,e⟩|⟨ha,e⟩<;>rw [ha]<;>exact e
  ·rename_i hk
   rw [hk] at hu;exact cI.pu rfl (aeY hu (hv x (by simp [Op.operands])) (hv i (by simp [Op.operands])) e)
  ·exact (cB e).elim
 case lookup t x i cok=>
  obtain ⟨ti,h1,e⟩:=aR e
  split at e
  ·rename_i kt et hk
   have hu:=(X' _ _ h1).und;rw [hk] at hu;obtain ⟨ki,h2,e⟩:=aR e;obtain ⟨ei,h3,e⟩:=aR e;exact cI.pu rfl (ab0 hu ⟨X' _ _ h2,X.fl _ _ h2⟩ (X' _ _ h3) I (hv x (by simp [Op.operands])) (hv i (by simp [Op.operands])) e)
  ·exact (cB e).elim
 case extract x i=>exact cI.pu rfl (amM (hv x (by simp [Op.operands])) e)
 case call c=>exact anH X I rfl hr hv e
 all_goals exact (cB e).elim
def ahN (P:Program) (ops:Array Oper) (i:Nat) (D:Option Nat) (a:Act) (ok:Nat→Prop) (w:World) (ρ:Rho) (h:AH) (κ:Ka) (rs:Rs):Prop:=
 ∃v,κ v h=some rs∧ ∀K Q,(∀u,V ok w v ρ u→K (a.put D u) w)→wpOp P ops Q i K a w
theorem ary (X:c7 P C) (I:Inv C ok w ρ h) {ops:Array Oper} {i:Nat} {o:Oper} (hi:ops[i]? =some o) (hr:rdB C o.op=true) {ds:List (Option Nat)} {σ:List AV} {T:Tms} {a:Act} (hv: ∀x,(x∈o.op.operands∨ ∃d,x= .tmp d∧d∈o.looksAt ops)→V ok w (ev C σ T (od ds x)) ρ (a.eval x))
 (e:(jV C ops.toList ds o).f C run σ T h κ=some rs):ahN P ops i o.dst a ok w ρ h κ rs:=by
 have op:(opK C ds o.op).f C run σ T h κ=some rs→cI P o a ok w ρ h κ rs:=axr X I hr (fun x hx=>hv x (.inl hx));unfold jV gdK at e
 split at e
 ·rename_i hg
  obtain ⟨v,k1,k2⟩:=op e;refine ⟨v,k1,fun K Q hn=>?_⟩;unfold wpOp;rw [hi];simp only [Region.wanted,hg,if_true];exact .inl (k2 K Q hn)
 ·rename_i x hg
  obtain ⟨j,want⟩:=x
  split at e
  ·rename_i p hp
   rw [bI,Bk] at hp
   split at e
   ·rename_i d hd
    obtain ⟨b,e1,e2⟩:=ai (show au (xS (ev C σ T (od ds (.tmp d))) want) _=some rs from e);have hvd:=hv (.tmp d) (.inr ⟨d,rfl,by
     unfold Oper.looksAt;rw [hg];exact C7 _ (by simp [hp,hd])⟩)
    obtain ⟨y1,y2⟩:=sE (a:=a) hp hd;have hw:Region.wanted o (yielded ops a.tmps)=b:=by
     unfold Region.wanted;rw [hg];show (yielded ops a.tmps j==some want)=b
     cases hx:ev C σ T (od ds (.tmp d))<;>rw [hx] at e1 hvd<;>try (cases e1;done)
     ·simp only [V] at hvd
      cases e1
      rw [y1 _ hvd,lF];rfl
     ·rename_i cs
      cases cs with
      |nil=>
       cases e1
       simp only [V,VL] at hvd;obtain ⟨us,h1,h2⟩:=hvd
       have:us= #[]:=by apply Dn;simpa using h2
       rw [y2 (by rw [←this];exact h1)]
       rfl
      |cons c cs=>cases e1
    cases b with
    |true=>
     obtain ⟨v,k1,k2⟩:=op e2;refine ⟨v,k1,fun K Q hn=>?_⟩;unfold wpOp;rw [hi];simp only [hw,if_true];exact .inl (k2 K Q hn)
    |false=>
     refine ⟨.tup [],e2,fun K Q hn=>?_⟩;unfold wpOp;rw [hi];simp only [hw,BR,if_false];exact hn undef (by simp only [V];exact ⟨#[],rfl,by simp [VL]⟩)
   ·exact (cB e).elim
  ·exact (cB e).elim
end
theorem afl {h:AH} {n:Nat} (e:h.length≤n):ab h n=none:=by
 rw [bE,BC e];rfl
theorem nJ (h:AH): ∀ns:List Nat,(dt ns h).length=h.length
 |[]=>rfl
 |n::ns=>(cM none (dt ns h) n).trans (nJ h ns)
theorem fH (h:AH): ∀(ns:List Nat) (n:Nat),ab (dt ns h) n=if n∈ns then none else ab h n
 |[],n=>by simp [dt]
 |m::ns,n=>by
  show ab (bH none (dt ns h) m) n=_;rw [dC,fH h ns,nJ]
  by_cases hm:n=m
  ·subst hm
   rcases BN n h.length with hl|hl
   ·simp [hl]
   ·simp [afl hl]
  ·simp [hm]
theorem lU (h0 h:AH): ∀ns:List Nat,(mK h0 ns h).length=h.length
 |[]=>rfl
 |n::ns=>(cM (ab h0 n) (mK h0 ns h) n).trans (lU h0 h ns)
theorem mX (h0 h:AH): ∀(ns:List Nat) (n:Nat),ab (mK h0 ns h) n=if n∈ns∧n<h.length then ab h0 n else ab h n
 |[],n=>by simp [mK]
 |m::ns,n=>by
  show ab (bH (ab h0 m) (mK h0 ns h) m) n=_;rw [dC,mX h0 h ns,lU]
  by_cases hm:n=m
  ·subst hm
   rcases BN n h.length with hl|hl
   ·simp [hl]
   ·simp [Nat.not_lt.2 hl]
  ·simp [hm]
theorem uL (m n:Nat):ab (aU m none) n=none:=by
 rw [bE,gL,List.getElem?_replicate]
 split<;>rfl
theorem afL (m:Nat) (h:AH):(aN m h).length=max m h.length:=by
 unfold aN;rw [fY,aS,gL,CA,Bq,ah];show min m h.length+((h.length-m)+(m-h.length))=_;omega
theorem uU (m:Nat) (h:AH) (n:Nat):ab (aN m h) n=if n<m then ab h n else none:=by
 unfold aN;rw [cN,uL,aS,Bq]
 by_cases hn:n<min m h.length
 ·rw [if_pos hn,if_pos (by omega),bE,bE,BZ,if_pos (by omega)]
 ·rw [if_neg hn]
  split
  ·rw [afl (by omega)]
  ·rfl
def rr (ρ:Rho) (ℓ:Nat):Rho:=fun n=>if n<ℓ then ρ n else none
theorem cQ {ρ:Rho} {ℓ n r:Nat}:rr ρ ℓ n=some r↔n<ℓ∧ρ n=some r:=by
 unfold rr
 split
 ·next h=>simp [h]
 ·next h=>simp [h]
theorem atG {ok:Nat→Prop} {w:World} {ρ ρ':Rho} {ℓ:Nat} (h: ∀n r,n<ℓ→ρ n=some r→ρ' n=some r):Up ok w (rr ρ ℓ) ok w ρ':=
 ⟨fun _ _=>rfl,fun _ h=>h,fun _ _ h=>h,fun n r e=>by obtain ⟨h1,h2⟩:=cQ.1 e;exact h n r h1 h2⟩
theorem tG {ok:Nat→Prop} {w:World} {ρ:Rho} {ℓ ℓ':Nat} (h:ℓ≤ℓ'):Up ok w (rr ρ ℓ) ok w (rr ρ ℓ'):=
 atG fun n r h1 h2=>cQ.2 ⟨by omega,h2⟩
structure DE where
 N:Nat
 hp:Nat→AH
 nw:Nat→Bool
 ef:Nat→Bool
 hid:Nat→List Nat
 B:Nat→Nat→Prop
structure DE.Ok (D:DE):Prop where
 mono: ∀j,j<D.N→(D.hp j).length≤(D.hp (j+1)).length
 rd: ∀j,j<D.N→D.nw j=false→D.ef j=false→D.hp (j+1)=D.hp j
 new: ∀j,j<D.N→D.nw j=true→(∀n,n<(D.hp j).length→ab (D.hp (j+1)) n=ab (D.hp j) n)∧(D.hp (j+1)).length≤(D.hp j).length+1
 hide: ∀j n,j<D.N→D.ef j=true→n∈D.hid j→n<(D.hp j).length→ab (D.hp (j+1)) n=ab (D.hp j) n
 hids: ∀j i,j<D.N→D.nw j=false→i<j→D.nw i=true→ ¬D.B j i→(D.hp (i+1)).length≠(D.hp i).length→(D.hp i).length∈D.hid j
 hidl: ∀j n,j<D.N→n∈D.hid j→n<(D.hp j).length
 one: ∀j,¬(D.nw j=true∧D.ef j=true)
section
variable {D:DE} {C:Cx}
theorem DE.Ok.le (O:D.Ok) {s:Nat}: ∀(t:Nat),s≤t→t≤D.N→(D.hp s).length≤(D.hp t).length
 |0,h,_=>by rw [Nat.le_zero.1 h];exact A9 _
 |t+1,h,hN=>by
  rcases BN t s with h'|h'
  ·rw [show s=t+1 by omega];exact A9 _
  ·exact Bo (O.le t h' (by omega)) (O.mono t (by omega))
def DE.Own (D:DE) (n t:Nat):Prop:=n<(D.hp t).length∧ ∀s,s<t→(D.hp s).length≤n
theorem DE.yQ {n:Nat}: ∀(j:Nat),n<(D.hp j).length→ ∃t,t≤j∧D.Own n t
 |0,h=>⟨0,A9 _,h,fun s hs=>absurd hs (Cn _)⟩
 |j+1,h=>by
  by_cases c: ∃s,s<j+1∧n<(D.hp s).length
  ·obtain ⟨s,h1,h2⟩:=c
   rcases BN s j with h3|h3
   ·by_cases h4:n<(D.hp j).length
    ·obtain ⟨t,a,b⟩:=DE.yQ j h4
     exact ⟨t,by omega,b⟩
    ·clear h4
     -- the least one below
     have: ∀m,n<(D.hp m).length→ ∃t,t≤m∧D.Own n t:=by
      intro m
      induction m using Nat.strongRecOn with
      |_ m ih=>
       intro hm
       by_cases c: ∃q,q<m∧n<(D.hp q).length
       ·obtain ⟨q,q1,q2⟩:=c
        obtain ⟨t,t1,t2⟩:=ih q q1 q2;exact ⟨t,by omega,t2⟩
       ·exact ⟨m,A9 _,hm,fun q hq=>Dj fun c'=>c ⟨q,hq,c'⟩⟩
     obtain ⟨t,t1,t2⟩:=this s h2;exact ⟨t,by omega,t2⟩
   ·have:s=j:=by omega
    subst this;obtain ⟨t,a,b⟩:=DE.yQ s h2;exact ⟨t,by omega,b⟩
  ·exact ⟨j+1,A9 _,h,fun s hs=>Dj fun c'=>c ⟨s,hs,c'⟩⟩
theorem DE.aaa {n t s:Nat} (a:D.Own n t) (b:D.Own n s):t=s:=by
 rcases De t s with h|h|h
 ·have:=b.2 t h;have:=a.1;omega
 ·exact h
 ·have:=a.2 s h;have:=b.1;omega
theorem DE.Ok.yE (O:D.Ok) {n t s:Nat} (a:D.Own n t) (hs:n<(D.hp s).length):t≤s:=by
 rcases BN s t with h|h
 ·have:=a.2 s h;omega
 ·exact h
theorem DE.Ok.same (O:D.Ok) {n s:Nat} (hn:n<(D.hp s).length): ∀(t:Nat),s≤t→t≤D.N→(∀e,s≤e→e<t→D.ef e=true→n∈D.hid e)→ab (D.hp t) n=ab (D.hp s) n
 |0,h,_,_=>by rw [Nat.le_zero.1 h]
 |t+1,h,hN,he=>by
  rcases BN t s with h'|h'
  ·rw [show s=t+1 by omega]
  ·have ih:=O.same hn t h' (by omega) (fun e a b c=>he e a (by omega) c)
   rw [←ih];have hl:n<(D.hp t).length:=Bm hn (O.le t h' (by omega))
   cases h1:D.nw t with
   |true=>exact (O.new t (by omega) h1).1 n hl
   |false=>
    cases h2:D.ef t with
    |true=>exact O.hide t n (by omega) h2 (he t h' (by omega) h2) hl
    |false=>rw [O.rd t (by omega) h1 h2]
def Ld (L:Nat→Prop) (t:Nat):Prop:=t=0∨L (t-1)
structure DSt (D:DE) (C:Cx) (ok0:Nat→Prop) (w0:World) (ρi:Rho) (L:Nat→Prop) (k:Nat) (ok:Nat→Prop) (w:World) (ρ:Rho):Prop where
 kN:k≤D.N
 kl: ∀e,e<D.N→D.ef e=true→(L e↔e<k)
 ke:k=0∨D.ef (k-1)=true
 cl: ∀j,L j→j<D.N∧ ∀i,D.B j i→L i
 okb: ∀r,ok r→r<w.heap.size
 gl: ∀g cs,C.gl g=some cs→ok g∧VAt ok w cs ρ0 g 0
 dom: ∀n r,ρ n=some r→r<w.heap.size∧ ∃t,t≤D.N∧Ld L t∧D.Own n t
 live: ∀n t b,D.Own n t→t≤D.N→Ld L t→ab (D.hp (max k t)) n=some b→ ∃r,ρ n=some r∧ ¬ok r∧iq ok w (rr ρ (D.hp (max k t)).length) r b
 inj: ∀n m t s r,D.Own n t→D.Own m s→t≤D.N→s≤D.N→Ld L t→Ld L s→ab (D.hp (max k t)) n≠none→ab (D.hp (max k s)) m≠none→ρ n=some r→ρ m=some r→n=m
 ext:Ext ok0 w0 ρi (D.hp 0) ok w ρ (D.hp k)
def DE.View (D:DE) (L:Nat→Prop) (k:Nat) (g:AH):Prop:=
 ∀n b,ab g n=some b→ ∃t,t≤D.N∧D.Own n t∧Ld L t∧ab (D.hp (max k t)) n=some b∧(D.hp (max k t)).length≤g.length
theorem DSt.inv {ok0:Nat→Prop} {w0:World} {ρi:Rho} {L:Nat→Prop} {k:Nat} {ok:Nat→Prop} {w:World} {ρ:Rho} (S:DSt D C ok0 w0 ρi L k ok w ρ) {g:AH} (G:D.View L k g):Inv C ok w (rr ρ g.length) g:=by
 refine ⟨S.okb,fun n r e=>?_,fun n b e=>?_,fun n m r hn hm e1 e2=>?_,S.gl⟩
 ·obtain ⟨h1,h2⟩:=cQ.1 e
  exact ⟨h1,(S.dom n r h2).1⟩
 ·obtain ⟨t,t0,t1,t2,t3,t4⟩:=G n b e
  obtain ⟨r,r1,r2,r3⟩:=S.live n t b t1 t0 t2 t3;exact ⟨r,cQ.2 ⟨cJ (by rw [e];simp),r1⟩,r2,r3.up (tG t4) rfl⟩
 ·cases h1:ab g n with
  |none=>exact absurd h1 hn
  |some b=>
   cases h2:ab g m with
   |none=>exact absurd h2 hm
   |some b'=>
    obtain ⟨t,t0,t1,t2,t3,t4⟩:=G n b h1;obtain ⟨s,s0,s1,s2,s3,s4⟩:=G m b' h2;exact S.inj n m t s r t1 s1 t0 s0 t2 s2 (by rw [t3];simp) (by rw [s3];simp) (cQ.1 e1).2 (cQ.1 e2).2
end
section
variable {D:DE} {C:Cx}
def mrg (ρ ρ':Rho) (a b:Nat):Rho:=fun n=>if n<a then ρ n else if n<b then ρ' n else ρ n
theorem DSt.lift (O:D.Ok) {ok0:Nat→Prop} {w0:World} {ρi:Rho} (I0:Inv C ok0 w0 ρi (D.hp 0)) {L:Nat→Prop} {k:Nat} {ok:Nat→Prop} {w:World} {ρ:Rho} (S:DSt D C ok0 w0 ρi L k ok w ρ) {j:Nat} (hj:j<D.N) (nl: ¬L j) {g:AH} (gl:g.length=(D.hp j).length) (G:D.View L k g)
 {ok':Nat→Prop} {w':World} {ρ':Rho} {h':AH} (E:Ext ok w (rr ρ g.length) g ok' w' ρ' h') (I':Inv C ok' w' ρ' h') (hl:h'.length=(D.hp (j+1)).length)
 {L':Nat→Prop} {k':Nat} (kk:k≤k') (kN':k'≤D.N) (hL: ∀i,L' i↔(L i∨i=j))
 (kl': ∀e,e<D.N→D.ef e=true→(L' e↔e<k')) (ke':k'=0∨D.ef (k'-1)=true) (bj: ∀i,D.B j i→L i)
 (new: ∀n b,(D.hp j).length≤n→ab (D.hp (max k' (j+1))) n=some b→n<(D.hp (j+1)).length→ab h' n=some b)
 (seen: ∀n t b,D.Own n t→t≤D.N→Ld L t→ab g n≠none→ab (D.hp (max k' t)) n=some b→ab h' n=some b∧(D.hp (j+1)).length≤(D.hp (max k' t)).length)
 (unseen: ∀n t b,D.Own n t→t≤D.N→Ld L t→ab g n=none→ab (D.hp (max k' t)) n=some b→ab (D.hp (max k t)) n=some b)
 (al: ∀n,n<(D.hp 0).length→ab (D.hp k') n≠none→ab (D.hp k) n≠none):
 DSt D C ok0 w0 ρi L' k' ok' w' (mrg ρ ρ' (D.hp j).length (D.hp (j+1)).length)∧
  Up ok w ρ ok' w' (mrg ρ ρ' (D.hp j).length (D.hp (j+1)).length)∧Up ok' w' ρ' ok' w' (rr (mrg ρ ρ' (D.hp j).length (D.hp (j+1)).length) (D.hp (j+1)).length):=by
 have m1:=O.mono j hj;have I:=S.inv G
 -- names of this step were not there
 have fresh: ∀n r,(D.hp j).length≤n→n<(D.hp (j+1)).length→ρ n≠some r:=by
  intro n r h1 h2 e;obtain ⟨_,t,t0,t1,t2⟩:=S.dom n r e
  have:D.Own n (j+1):=⟨h2,fun s hs=>Bo (O.le j (by omega) (by omega)) h1⟩
  have:=DE.aaa t2 this
  subst this;rcases t1 with t1|t1
  ·omega
  ·exact nl t1
 have old: ∀n r,ρ' n=some r→n<(D.hp j).length→ρ n=some r:=by
  intro n r e hn;rcases E.rnew n r e with e|⟨h1,_⟩
  ·exact (cQ.1 e).2
  ·omega
 have nam: ∀n r,ρ n=some r→mrg ρ ρ' (D.hp j).length (D.hp (j+1)).length n=some r:=by
  intro n r e;unfold mrg
  split
  ·exact e
  ·split
   ·next a b=>exact absurd e (fresh n r (by omega) b)
   ·exact e
 have namN: ∀n r,ρ' n=some r→mrg ρ ρ' (D.hp j).length (D.hp (j+1)).length n=some r:=by
  intro n r e
  have:=(I'.dom n r e).1
  unfold mrg
  split
  ·next a=>exact old n r e a
  ·rw [if_pos (by omega)];exact e
 have back: ∀n r,mrg ρ ρ' (D.hp j).length (D.hp (j+1)).length n=some r→(ρ n=some r∧ ¬((D.hp j).length≤n∧n<(D.hp (j+1)).length))∨(ρ' n=some r∧(D.hp j).length≤n∧n<(D.hp (j+1)).length):=by
  intro n r e;unfold mrg at e
  split at e
  ·exact .inl ⟨e,by omega⟩
  ·split at e
   ·exact .inr ⟨e,by omega,by assumption⟩
   ·exact .inl ⟨e,by omega⟩
 have U:Up ok w ρ ok' w' (mrg ρ ρ' (D.hp j).length (D.hp (j+1)).length):=⟨E.up.okb,E.up.oku,E.up.shp,nam⟩;have UN:Up ok' w' ρ' ok' w' (rr (mrg ρ ρ' (D.hp j).length (D.hp (j+1)).length) (D.hp (j+1)).length):=
  ⟨fun _ _=>rfl,fun _ h=>h,fun _ _ h=>h,fun n r e=>cQ.2 ⟨by have:=(I'.dom n r e).1;omega,namN n r e⟩⟩
 have ldn: ∀t,Ld L t→Ld L' t:=fun t h=>h.imp id fun h=>(hL _).2 (.inl h)
 have ldb: ∀t,Ld L' t→Ld L t∨t=j+1:=by
  intro t h;rcases h with h|h
  ·exact .inl (.inl h)
  ·rcases (hL _).1 h with h|h
   ·exact .inl (.inr h)
   ·rcases Nat.eq_zero_or_pos t with h0|h0
    ·exact .inl (.inl h0)
    ·exact .inr (by omega)
 -- blocks that the step does not see
 have apart: ∀n t r,D.Own n t→t≤D.N→Ld L t→ab (D.hp (max k t)) n≠none→ab g n=none→ρ n=some r→ ∀m,ab g m≠none→rr ρ g.length m≠some r:=by
  intro n t r h1 h0 h2 h3 h4 h5 m hm e
  cases hb:ab g m with
  |none=>exact hm hb
  |some b=>
   obtain ⟨s,s0,s1,s2,s3,s4⟩:=G m b hb
   have:=S.inj n m t s r h1 s1 h0 s0 h2 s2 h3 (by rw [s3];simp) h5 (cQ.1 e).2
   rw [this] at h4;exact hm h4
 -- what lives behind the step: either in its heap, or as it was
 have liv: ∀n t b,D.Own n t→t≤D.N→Ld L' t→ab (D.hp (max k' t)) n=some b→
  (ab h' n=some b∧n<(D.hp (j+1)).length∧(D.hp (j+1)).length≤(D.hp (max k' t)).length)∨(Ld L t∧ab g n=none∧ab (D.hp (max k t)) n=some b∧(D.hp (max k t)).length≤(D.hp (max k' t)).length∧ ¬((D.hp j).length≤n∧n<(D.hp (j+1)).length)):=by
  intro n t b h1 h0 h2 h3
  by_cases ht:t=j+1
  ·subst ht
   have a1:=h1.1;have a2:=h1.2 j (by omega);exact .inl ⟨new n b a2 h3 a1,a1,O.le _ (by omega) (by omega)⟩
  ·have h2:Ld L t:=(ldb t h2).resolve_right ht
   by_cases hg:ab g n=none
   ·refine .inr ⟨h2,hg,unseen n t b h1 h0 h2 hg h3,O.le _ (by omega) (by omega),fun c=>ht (DE.aaa h1 ⟨c.2,fun s hs=>Bo (O.le j (by omega) (by omega)) c.1⟩)⟩
   ·obtain ⟨a,b'⟩:=seen n t b h1 h0 h2 hg h3
    exact .inl ⟨a,by have:=cJ hg;omega,b'⟩
 refine ⟨⟨kN',kl',ke',?_,I'.okb,I'.gl,?_,?_,?_,?_⟩,U,UN⟩
 ·intro i hi
  rcases (hL i).1 hi with hi|rfl
  ·exact ⟨(S.cl i hi).1,fun q hq=>(hL q).2 (.inl ((S.cl i hi).2 q hq))⟩
  ·exact ⟨hj,fun q hq=>(hL q).2 (.inl (bj q hq))⟩
 ·intro n r e
  rcases back n r e with ⟨e,_⟩|⟨e,a,b⟩
  ·obtain ⟨a,t,b,c,d⟩:=S.dom n r e
   exact ⟨Bm a E.size,t,b,ldn t c,d⟩
  ·exact ⟨(I'.dom n r e).2,j+1,hj,.inr ((hL j).2 (.inr rfl)),b,fun s hs=>Bo (O.le j (by omega) (by omega)) a⟩
 ·intro n t b h1 h0 h2 h3
  rcases liv n t b h1 h0 h2 h3 with ⟨a1,a2,a3⟩|⟨a1,a2,a3,a4,a5⟩
  ·obtain ⟨r,r1,r2,r3⟩:=I'.live n b a1
   exact ⟨r,namN n r r1,r2,(r3.up UN rfl).up (tG a3) rfl⟩
  ·obtain ⟨r,r1,r2,r3⟩:=S.live n t b h1 h0 a1 a3
   have rsz:=(S.dom n r r1).1;have ap:=apart n t r h1 h0 a1 (by rw [a3];simp) a2 r1;refine ⟨r,nam n r r1,fun c=>?_,r3.up ⟨U.okb,U.oku,U.shp,fun m q e=>?_⟩ (E.keep r rsz ap)⟩
   ·rcases E.oknew r c with c|c|⟨m,hm,em⟩
    ·exact r2 c
    ·omega
    ·exact ap m hm em
   ·obtain ⟨e1,e2⟩:=cQ.1 e
    exact cQ.2 ⟨by omega,nam m q e2⟩
 ·intro n m t s r hn hm ht hs ln lm an am en em
  -- one name in the step's heap
  have inH: ∀n,n<(D.hp (j+1)).length→mrg ρ ρ' (D.hp j).length (D.hp (j+1)).length n=some r→ab h' n≠none→ρ' n=some r:=by
   intro n hn e hh
   cases hb:ab h' n with
   |none=>exact absurd hb hh
   |some b=>
    obtain ⟨r',r1,_⟩:=I'.live n b hb
    have:=namN n r' r1
    rw [this] at e;cases e;exact r1
  have outH: ∀n t,D.Own n t→Ld L t→ab g n=none→ ¬((D.hp j).length≤n∧n<(D.hp (j+1)).length)→mrg ρ ρ' (D.hp j).length (D.hp (j+1)).length n=some r→ρ n=some r:=by
   intro n t h1 h2 h3 h4 e;rcases back n r e with ⟨e,_⟩|⟨_,a,b⟩
   ·exact e
   ·exact absurd ⟨a,b⟩ h4
  have cross: ∀n m s,ab h' n≠none→ρ' n=some r→D.Own m s→s≤D.N→Ld L s→ab g m=none→ab (D.hp (max k s)) m≠none→ρ m=some r→False:=by
   intro n m s h1 h2 h3 h0 h4 h5 h6 h7;have ap:=apart m s r h3 h0 h4 h6 h5 h7;have rsz:=(S.dom m r h7).1;rcases E.rnew n r h2 with e|⟨_,⟨q,q1,q2⟩|e⟩
   ·refine ap n (E.alive n ?_ h1) e
    exact (cQ.1 e).1
   ·exact ap q q1 q2
   ·omega
  cases hbn:ab (D.hp (max k' t)) n with
  |none=>exact absurd hbn an
  |some b=>
   cases hbm:ab (D.hp (max k' s)) m with
   |none=>exact absurd hbm am
   |some b'=>
    rcases liv n t b hn ht ln hbn with ⟨a1,a2,a3⟩|⟨a1,a2,a3,a4,a5⟩<;>rcases liv m s b' hm hs lm hbm with ⟨c1,c2,c3⟩|⟨c1,c2,c3,c4,c5⟩
    ·exact I'.inj n m r (by rw [a1];simp) (by rw [c1];simp) (inH n a2 en (by rw [a1];simp)) (inH m c2 em (by rw [c1];simp))
    ·exact (cross n m s (by rw [a1];simp) (inH n a2 en (by rw [a1];simp)) hm hs c1 c2 (by rw [c3];simp) (outH m s hm c1 c2 c5 em)).elim
    ·exact (cross m n t (by rw [c1];simp) (inH m c2 em (by rw [c1];simp)) hn ht a1 a2 (by rw [a3];simp) (outH n t hn a1 a2 a5 en)).elim
    ·exact S.inj n m t s r hn hm ht hs a1 c1 (by rw [a3];simp) (by rw [c3];simp) (outH n t hn a1 a2 a5 en) (outH m s hm c1 c2 c5 em)
 ·--from the start on
  have bk: ∀r,r<w0.heap.size→(∀n,ab (D.hp 0) n≠none→ρi n≠some r)→ ∀n,ab g n≠none→rr ρ g.length n≠some r:=by
   intro r hr hn n hg e
   cases hb:ab g n with
   |none=>exact hg hb
   |some b=>
    obtain ⟨t,t0,t1,t2,t3,t4⟩:=G n b hb;obtain ⟨_,e⟩:=cQ.1 e;rcases S.ext.rnew n r e with e|⟨_,⟨m,h1,h2⟩|e⟩
    ·have hn0:=(I0.dom n r e).1
     have:t=0:=by
      have:=O.yE t1 hn0
      omega
     subst this;refine hn n (S.ext.alive n hn0 ?_) e;rw [Nat.max_zero] at t3;rw [t3];simp
    ·exact hn m h1 h2
    ·omega
  have keep: ∀r,r<w0.heap.size→(∀n,ab (D.hp 0) n≠none→ρi n≠some r)→w'.heap[r]? =w0.heap[r]? :=by
   intro r hr hn;rw [E.keep r (Bm hr S.ext.size) (bk r hr hn),S.ext.keep r hr hn]
  refine ⟨⟨fun r hr=>keep r (I0.okb r hr) (I0.apart hr),fun r hr=>E.up.oku r (S.ext.up.oku r hr),fun r s hs=>E.up.shp r s (S.ext.up.shp r s hs),fun n r e=>nam n r (S.ext.up.nam n r e)⟩,Bo S.ext.size E.size,E.os.trans S.ext.os,E.tape.trans S.ext.tape,E.output.trans S.ext.output,O.le k' (by omega) kN',keep,?_,fun n hn e=>S.ext.alive n hn (al n hn e),?_⟩
  ·intro r hr
   rcases E.oknew r hr with hr|hr|⟨m,hm,em⟩
   ·exact S.ext.oknew r hr
   ·exact .inr (.inl (Bo S.ext.size hr))
   ·refine Classical.byContradiction fun c=>?_
    have c1:r<w0.heap.size:=by
     rcases BN r w0.heap.size with l|l
     ·exact l
     ·exact absurd (.inr (.inl l)) c
    exact bk r c1 (fun n hn e=>c (.inr (.inr ⟨n,hn,e⟩))) m hm em
  ·intro n r e
   rcases back n r e with ⟨e,_⟩|⟨e,a,b⟩
   ·exact S.ext.rnew n r e
   ·have h0:(D.hp 0).length≤n:=Bo (O.le j (by omega) (by omega)) a
    refine .inr ⟨h0,?_⟩;rcases E.rnew n r e with e|⟨_,⟨m,h1,h2⟩|e⟩
    ·exact absurd (cQ.1 e).1 (by omega)
    ·cases hr:decide (r<w0.heap.size) with
     |false=>exact .inr (by simpa using hr)
     |true=>
      left
      refine Classical.byContradiction fun c=>?_
      exact bk r (by simpa using hr) (fun n h1 h2=>c ⟨n,h1,h2⟩) m h1 h2
    ·exact .inr (Bo S.ext.size e)
end
def hpT (h0:AH) (tr:List Tr):Nat→AH
 |0=>h0
 |j+1=>(tr.getD j default).h'
def sgT (tr:List Tr) (j:Nat):List AV:=((tr.take j).map Tr.v).reverse
section
variable {C:Cx} {run:Run} {t:Tms} {h0:AH}
theorem vg {x:Option Rs} {y:AV×AH} (e:vhO x=some y):x=some (.vh y.1 y.2):=by
 unfold vhO at e
 split at e
 ·cases e;rfl
 ·cases e
theorem xV {o:DOp} {tr:List Tr} {σ:List AV} {h:AH} {r:Tr} (e:dY C run t o tr σ h=some r):
 (o.nw=true∧ ∃v h',o.op.f C run σ t (aU h.length none) kVH=some (.vh v h')∧h.length≤h'.length∧h'.length≤h.length+1∧r=⟨σ,h,v,h++h'.drop h.length⟩)∨
 (o.nw=false∧ ∃v h',o.op.f C run σ t (dt (dy tr o.hide) h) kVH=some (.vh v h')∧((o.ef=true∧h.length≤h'.length∧r=⟨σ,h,v,mK h (dy tr o.hide) h'⟩)∨(o.ef=false∧r=⟨σ,h,v,h⟩))):=by
 unfold dY at e
 cases hn:o.nw with
 |true=>
  rw [hn,aA] at e;obtain ⟨⟨v,h'⟩,e1,e2⟩:=ai e;obtain ⟨e3,e4⟩:=aB (show bq _ _ none=some r from e2);rw [Ba] at e3;have a:=Be e3.1;have b:=Be e3.2;rw [ah,ah] at a b;have e1:=vg e1;rw [ah] at e1;rw [aV,bt,ah] at e4;exact .inl ⟨rfl,v,h',e1,a,b,by cases e4;rfl⟩
 |false=>
  rw [hn,aE] at e;obtain ⟨⟨v,h'⟩,e1,e2⟩:=ai e;have e1:=vg e1;refine .inr ⟨rfl,v,h',e1,?_⟩
  cases hf:o.ef with
  |true=>
   rw [hf,aA] at e2;obtain ⟨e3,e4⟩:=aB e2;have a:=Be e3;rw [ah,ah] at a;exact .inl ⟨rfl,a,by cases e4;rfl⟩
  |false=>
   rw [hf,aE] at e2;exact .inr ⟨rfl,by cases e2;rfl⟩
theorem apD {o:DOp} {tr:List Tr} {σ:List AV} {h:AH} {r:Tr} (e:dY C run t o tr σ h=some r):r.σ=σ∧r.h=h:=by
 rcases xV e with ⟨_,v,h',_,_,_,rfl⟩|⟨_,v,h',_,⟨_,_,rfl⟩|⟨_,rfl⟩⟩<;>exact ⟨rfl,rfl⟩
def Fact (C:Cx) (run:Run) (t:Tms) (h0:AH) (L:List DOp) (tr:List Tr) (j:Nat):Prop:=
 ∃o,L[j]? =some o∧dY C run t o (tr.take j) (sgT tr j) (hpT h0 tr j)=some (tr.getD j default)
theorem zP {tr:List Tr} {r:Tr} {j:Nat} (h:j<tr.length):(tr++[r]).getD j default=tr.getD j default:=by
 simp [Bf,Bj h]
theorem xa {tr:List Tr} {r:Tr}:(tr++[r]).getD tr.length default=r:=by
 simp [Bf]
theorem afa {tr:List Tr} {r:Tr} {j:Nat} (h:j≤tr.length):hpT h0 (tr++[r]) j=hpT h0 tr j:=by
 cases j with
 |zero=>rfl
 |succ j=>show ((tr++[r]).getD j default).h'=_;rw [zP (by omega)];rfl
theorem aez {tr:List Tr} {r:Tr} {j:Nat} (h:j≤tr.length):sgT (tr++[r]) j=sgT tr j:=by
 unfold sgT;rw [BM h]
theorem aa8 (L:List DOp): ∀(l:List DOp) (tr:List Tr) (x:List Tr×List AV×AH),L.drop tr.length=l→tr.length≤L.length→eZ C run t l tr (sgT tr tr.length) (hpT h0 tr tr.length)=some x→(∀j,j<tr.length→Fact C run t h0 L tr j)→
 x.1.length=L.length∧x.2.1=sgT x.1 L.length∧x.2.2=hpT h0 x.1 L.length∧ ∀j,j<L.length→Fact C run t h0 L x.1 j
 |[],tr,x,hd,hl,e,hf=>by
  have:L.length=tr.length:=by
   have:=congrArg List.length hd
   simp at this;omega
  cases e
  rw [this];exact ⟨rfl,rfl,rfl,hf⟩
 |o::l,tr,x,hd,hl,e,hf=>by
  have hlt:tr.length<L.length:=by
   rcases BN tr.length L.length with h|h
   ·exact h
   ·rw [Cw h] at hd;cases hd
  have ho:L[tr.length]? =some o:=by
   have:=congrArg (·[0]?) hd
   simpa using this
  have hd':L.drop (tr.length+1)=l:=by
   have:=congrArg (·.drop 1) hd
   simpa [Dt] using this
  obtain ⟨r,e1,e2⟩:=ai (show au (dY C run t o tr (sgT tr tr.length) (hpT h0 tr tr.length)) (fun r=>eZ C run t l (av tr [r]) (r.v::sgT tr tr.length) r.h')=some x from e);simp only [aV] at e2;have hlen:(tr++[r]).length=tr.length+1:=by simp
  have s1:r.v::sgT tr tr.length=sgT (tr++[r]) (tr++[r]).length:=by
   unfold sgT;rw [Cc,Cc];simp
  have s2:r.h'=hpT h0 (tr++[r]) (tr++[r]).length:=by
   rw [hlen];show _=((tr++[r]).getD tr.length default).h';rw [xa]
  rw [s1,s2] at e2;refine aa8 L l (tr++[r]) x (by rw [hlen];exact hd') (by rw [hlen];omega) e2 (fun j hj=>?_);rw [hlen] at hj
  by_cases hjl:j=tr.length
  ·subst hjl
   refine ⟨o,ho,?_⟩;rw [BM (A9 _),Cc,aez (A9 _),afa (A9 _),xa];exact e1
  ·obtain ⟨o',h1,h2⟩:=hf j (by omega)
   refine ⟨o',h1,?_⟩;rw [BM (by omega),aez (by omega),afa (by omega),zP (by omega)];exact h2
theorem aoH {L:List DOp} {x:List Tr×List AV×AH} (e:eZ C run t L [] [] h0=some x):x.1.length=L.length∧x.2.1=sgT x.1 L.length∧x.2.2=hpT h0 x.1 L.length∧ ∀j,j<L.length→Fact C run t h0 L x.1 j:=
 aa8 L L [] x rfl (Cm _) e (fun j hj=>absurd hj (Cn _))
theorem sC (tr:List Tr) (j:Nat) (l:List Nat):dy tr (j::l)=(match dQ tr j with|some r=>bq (Nat.beq (ag r.h') (ag r.h)) (dy tr l) (ag r.h::dy tr l)|none=>dy tr l):=by
 show Option.rec (motive:=fun _=>List Nat) (dy tr l) (fun r=>bq (Nat.beq (ag r.h') (ag r.h)) (dy tr l) (ag r.h::dy tr l)) (dQ tr j)=_
 cases dQ tr j<;>rfl
theorem vl (tr:List Tr) (n:Nat): ∀l:List Nat,n∈dy tr l↔ ∃i,i∈l∧ ∃r,tr[i]? =some r∧r.h'.length≠r.h.length∧n=r.h.length
 |[]=>by simp [dy]
 |j::l=>by
  rw [sC,bI];have ih:=vl tr n l
  cases hj:tr[j]? with
  |none=>
   simp only [ih,Bv]
   constructor
   ·rintro ⟨i,h1,h2⟩;exact ⟨i,.inr h1,h2⟩
   ·rintro ⟨i,h1|h1,h2⟩
    ·subst h1;obtain ⟨r,h2,_⟩:=h2;rw [hj] at h2;cases h2
    ·exact ⟨i,h1,h2⟩
  |some r=>
   simp only [ah]
   cases hb:Nat.beq r.h'.length r.h.length with
   |true=>
    rw [aA,ih]
    have:=A8 hb
    constructor
    ·rintro ⟨i,h1,h2⟩;exact ⟨i,Bh _ h1,h2⟩
    ·rintro ⟨i,h1,h2⟩
     rcases Bv.1 h1 with h1|h1
     ·subst h1;obtain ⟨r',h2,h3,_⟩:=h2;rw [hj] at h2;cases h2;exact absurd this h3
     ·exact ⟨i,h1,h2⟩
   |false=>
    rw [aE,Bv,ih];have hne:r.h'.length≠r.h.length:=fun c=>by rw [c,Bs] at hb;cases hb
    constructor
    ·rintro (h|⟨i,h1,h2⟩)
     ·exact ⟨j,BB,r,hj,hne,h⟩
     ·exact ⟨i,Bh _ h1,h2⟩
    ·rintro ⟨i,h1,h2⟩
     rcases Bv.1 h1 with h1|h1
     ·subst h1;obtain ⟨r',h2,_,h4⟩:=h2;rw [hj] at h2;cases h2;exact .inl h4
     ·exact .inr ⟨i,h1,h2⟩
theorem xL (tr:List Tr) (j:Nat): ∀l:List Nat,(∀i,i∈l→i<j)→dy (tr.take j) l=dy tr l
 |[],_=>rfl
 |i::l,h=>by
  rw [sC,sC,xL tr j l (fun q hq=>h q (Bh _ hq)),bI,bI,BZ,if_pos (h i BB)]
theorem ko (ops:List Oper): ∀(l:List Oper) (ds:List (Option Nat)) (j:Nat),(bo C ops ds l)[j]? =(l[j]?).map fun o=>jV C ops (((l.take j).map (·.dst)).reverse++ds) o
 |[],_,j=>by simp [bo]
 |o::l,ds,0=>by simp [bo]
 |o::l,ds,j+1=>by
  simp only [bo,BA,ko ops l]
  simp
theorem wV (ops:List Oper): ∀(l:List Oper) (ds:List (Option Nat)),(bo C ops ds l).length=l.length
 |[],_=>rfl
 |o::l,ds=>by simp [bo,wV ops l]
theorem kI (ops:List Oper) (b:List Nat): ∀(l:List OK) (i j:Nat),(bZ C ops b i l)[j]? =(l[j]?).map fun k=>⟨k,gJ C ops b (i+j),mkB C (ops.getD (i+j) default).op,eF C (ops.getD (i+j) default).op⟩
 |[],_,j=>by simp [bZ]
 |o::l,i,0=>by simp [bZ]
 |o::l,i,j+1=>by
  simp only [bZ,BA,kI ops b l];rw [show i+1+j=i+(j+1) by omega]
theorem yd (ops:List Oper) (b:List Nat): ∀(l:List OK) (i:Nat),(bZ C ops b i l).length=l.length
 |[],_=>rfl
 |o::l,i=>by simp [bZ,yd ops b l]
theorem pr {l:List Oper} {b:List Nat} {j i:Nat}:i∈gJ C l b j↔mkB C (l.getD j default).op=false∧i<j∧mkB C (l.getD i default).op=true∧(b.getD j 0).testBit i=false:=by
 unfold gJ
 cases h:mkB C (l.getD j default).op<;>simp
theorem agk (f:List Nat→Oper→Nat): ∀(l:List Oper) (acc:List Nat),(l.foldl (fun acc o=>acc++[f acc o]) acc).length=acc.length+l.length∧(l.foldl (fun acc o=>acc++[f acc o]) acc).take acc.length=acc∧
 ∀j o,l[j]? =some o→(l.foldl (fun acc o=>acc++[f acc o]) acc)[acc.length+j]? =some (f ((l.foldl (fun acc o=>acc++[f acc o]) acc).take (acc.length+j)) o)
 |[],acc=>by simp
 |o::l,acc=>by
  obtain ⟨h1,h2,h3⟩:=agk f l (acc++[f acc o]);simp only [List.foldl_cons];have hl:(acc++[f acc o]).length=acc.length+1:=by simp
  refine ⟨by rw [h1,hl,Br];omega,?_,?_⟩
  ·have:=congrArg (List.take acc.length) h2
   rw [List.take_take,hl,Da (by omega)] at this;rw [this];simp
  ·intro j o' hj
   cases j with
   |zero=>
    simp at hj;subst hj
    have t0:=congrArg (List.take acc.length) h2;rw [List.take_take,hl,Da (by omega)] at t0;rw [Do,t0]
    have:=congrArg (·[acc.length]?) h2
    simp only [BZ,hl] at this;rw [if_pos (by omega)] at this;rw [this];simp
   |succ j=>
    have:=h3 j o' (by simpa using hj)
    rw [hl,show acc.length+1+j=acc.length+(j+1) by omega] at this;exact this
theorem apN {l:List Oper} {j:Nat} {o:Oper} (h:l[j]? =some o):(cr l).getD j 0=abt ((cr l).take j) o:=by
 have:=(agk abt l []).2.2 j o h
 simp only [CK,BE] at this;rw [Bf];unfold cr;rw [this];rfl
theorem aiS {acc:List Nat} {o:Oper} {i:Nat} (h:(abt acc o).testBit i=true): ∃e,e∈o.after.toList∧Region.binds .any e=true∧(i=e.on∨(acc.getD e.on 0).testBit i=true):=by
 unfold abt at h
 have: ∀(l:List Edge) (s:Nat),(l.foldl (fun s e=>if Region.binds .any e then s|||2^e.on|||acc.getD e.on 0 else s) s).testBit i=true→s.testBit i=true∨ ∃e,e∈l∧Region.binds .any e=true∧(i=e.on∨(acc.getD e.on 0).testBit i=true):=by
  intro l
  induction l with
  |nil=>intro s hs;exact .inl hs
  |cons e l ih=>
   intro s hs;rw [List.foldl_cons] at hs;rcases ih _ hs with h|⟨e',a,b⟩
   ·split at h
    ·next hb=>
     rw [Nat.testBit_or,Nat.testBit_or,Bool.or_eq_true,Bool.or_eq_true] at h;rcases h with (h|h)|h
     ·exact .inl h
     ·rw [Nat.testBit_two_pow] at h
      exact .inr ⟨e,BB,hb,.inl (by simp at h;exact h.symm)⟩
     ·exact .inr ⟨e,BB,hb,.inr h⟩
    ·exact .inl h
   ·exact .inr ⟨e',Bh _ a,b⟩
 rcases this _ 0 h with h|h
 ·simp at h
 ·exact h
end
section
variable {D:DE} {C:Cx}
structure wC (D:DE) (vv:Nat→AV) (dst:Nat→Option Nat) (T:Tms) (L:Nat→Prop) (ok:Nat→Prop) (w:World) (ρ:Rho) (tmps:Array Value):Prop where
 wr: ∀d p,L p→dst p=some d→(∀q,L q→dst q=some d→q≤p)→V ok w (vv p) (rr ρ (D.hp (p+1)).length) (tmps.getD d undef)
 un: ∀d,(∀p,L p→dst p≠some d)→V ok w (bc T d) (rr ρ (D.hp 0).length) (tmps.getD d undef)
theorem Up.rr {ok:Nat→Prop} {w:World} {ρ:Rho} {ok':Nat→Prop} {w':World} {ρ':Rho} (U:Up ok w ρ ok' w' ρ') (ℓ:Nat):Up ok w (rr ρ ℓ) ok' w' (rr ρ' ℓ):=
 ⟨U.okb,U.oku,U.shp,fun n r e=>by obtain ⟨h1,h2⟩:=cQ.1 e;exact cQ.2 ⟨h1,U.nam n r h2⟩⟩
theorem wC.up {vv:Nat→AV} {dst:Nat→Option Nat} {T:Tms} {L:Nat→Prop} {ok:Nat→Prop} {w:World} {ρ:Rho} {tmps:Array Value} (M:wC D vv dst T L ok w ρ tmps) {ok':Nat→Prop} {w':World} {ρ':Rho} (U:Up ok w ρ ok' w' ρ'):wC D vv dst T L ok' w' ρ' tmps:=
 ⟨fun d p a b c=>V.up _ (U.rr _) (M.wr d p a b c),fun d a=>V.up _ (U.rr _) (M.un d a)⟩
theorem wC.put {vv:Nat→AV} {dst:Nat→Option Nat} {T:Tms} {L L':Nat→Prop} {ok:Nat→Prop} {w:World} {ρ:Rho} {a:Act} (M:wC D vv dst T L ok w ρ a.tmps) {j:Nat} (hL: ∀i,L' i↔(L i∨i=j)) {u:Value} (hu:V ok w (vv j) (rr ρ (D.hp (j+1)).length) u)
 (hd: ∀d,dst j=some d→d<a.tmps.size∧ ∀q,L q→dst q=some d→q<j):wC D vv dst T L' ok w ρ (a.put (dst j) u).tmps:=by
 have hg: ∀d,(a.put (dst j) u).tmps.getD d undef=if dst j=some d then u else a.tmps.getD d undef:=by
  intro d
  cases hj:dst j with
  |none=>simp [Act.put]
  |some D'=>
   show (a.tmps.setIfInBounds D' u).getD d undef=_;rw [ju];have hs:=(hd D' hj).1
   by_cases h:D'=d
   ·rw [if_pos ⟨h,hs⟩,if_pos (by rw [h])]
   ·rw [if_neg (fun c=>h c.1),if_neg (by simpa using h)]
 refine ⟨fun d p a1 a2 a3=>?_,fun d a1=>?_⟩
 ·rw [hg]
  split
  ·next h=>
   have:p=j:=by
    have h1:=a3 j ((hL j).2 (.inr rfl)) h;rcases (hL p).1 a1 with h2|h2
    ·have:=(hd d h).2 p h2 a2;omega
    ·exact h2
   rw [this];exact hu
  ·next h=>
   rcases (hL p).1 a1 with h2|h2
   ·exact M.wr d p h2 a2 (fun q q1 q2=>a3 q ((hL q).2 (.inl q1)) q2)
   ·exact absurd (h2▸a2) h
 ·rw [hg,if_neg (a1 j ((hL j).2 (.inr rfl)))]
  exact M.un d (fun p hp=>a1 p ((hL p).2 (.inl hp)))
theorem acZ {ok:Nat→Prop} {w:World} {ρ:Rho} {h:AH} (I:Inv C ok w ρ h) {ds:List (Option Nat)} {σ:List AV} {T:Tms} {a:Act} (x:Operand) (hx: ∀d,x= .tmp d→V ok w (ev C σ T (od ds (.tmp d))) ρ (a.tmps.getD d undef)):V ok w (ev C σ T (od ds x)) ρ (a.eval x):=by
 cases x with
 |tmp d=>exact hx d rfl
 |const v=>exact ano v
 |global g=>exact ajM I g
 |func f=>
  show V ok w (.fn f [] []) ρ (.func (.func f) #[] #[]);simp only [V,VL];exact ⟨#[], #[],rfl,rfl,rfl⟩
theorem vF (f:Nat→Option Nat) (d:Nat): ∀(j i:Nat),dq d (((List.range j).map f).reverse)=some i→i<j∧f (j-1-i)=some d∧ ∀q,j-1-i<q→q<j→f q≠some d
 |0,i,e=>by simp [dq] at e
 |j+1,i,e=>by
  rw [List.range_succ,Co,List.reverse_append] at e;simp only [BS,List.map_nil,Cf,List.reverse_nil,BO,Ca] at e;have step: ∀i',dq d (((List.range j).map f).reverse)=some i'→i=i'+1→f j≠some d→i<j+1∧f (j+1-1-i)=some d∧ ∀q,j+1-1-i<q→q<j+1→f q≠some d:=by
   intro i' h1 h2 h3;obtain ⟨a,b,c⟩:=vF f d j i' h1;subst h2
   have:j+1-1-(i'+1)=j-1-i':=by omega
   rw [this];refine ⟨by omega,b,fun q q1 q2=>?_⟩
   by_cases hq:q=j
   ·rw [hq];exact h3
   ·exact c q q1 (by omega)
  cases hf:f j with
  |none=>
   rw [hf] at e;simp only [dq] at e
   cases hr:dq d (((List.range j).map f).reverse) with
   |none=>rw [hr] at e;cases e
   |some i'=>rw [hr] at e;cases e;exact step i' hr rfl (by rw [hf];simp)
  |some d'=>
   rw [hf] at e;simp only [dq] at e
   split at e
   ·next h=>
    cases e
    refine ⟨by omega,by simp [hf,h],fun q q1 q2=>by omega⟩
   ·next h=>
    cases hr:dq d (((List.range j).map f).reverse) with
    |none=>rw [hr] at e;cases e
    |some i'=>rw [hr] at e;cases e;exact step i' hr rfl (by rw [hf];simpa using fun c=>h c.symm)
theorem j5 (f:Nat→Option Nat) (d:Nat): ∀(j:Nat),dq d (((List.range j).map f).reverse)=none→ ∀q,q<j→f q≠some d
 |0,_,q,hq=>absurd hq (Cn _)
 |j+1,e,q,hq=>by
  rw [List.range_succ,Co,List.reverse_append] at e;simp only [BS,List.map_nil,Cf,List.reverse_nil,BO,Ca] at e
  have:f j≠some d∧dq d (((List.range j).map f).reverse)=none:=by
   cases hf:f j with
   |none=>
    rw [hf] at e;simp only [dq] at e
    cases hr:dq d (((List.range j).map f).reverse) with
    |none=>exact ⟨by simp,rfl⟩
    |some i'=>rw [hr] at e;cases e
   |some d'=>
    rw [hf] at e;simp only [dq] at e
    split at e
    ·cases e
    ·next h=>
     cases hr:dq d (((List.range j).map f).reverse) with
     |none=>exact ⟨by simpa using fun c=>h c.symm,rfl⟩
     |some i'=>rw [hr] at e;cases e
  by_cases hqj:q=j
  ·rw [hqj];exact this.1
  ·exact j5 f d j this.2 q (by omega)
theorem wC.look {vv:Nat→AV} {dst:Nat→Option Nat} {T:Tms} {L:Nat→Prop} {ok:Nat→Prop} {w:World} {ρ:Rho} {tmps:Array Value} (O:D.Ok) (M:wC D vv dst T L ok w ρ tmps) {j d ℓ:Nat} (hj:j<D.N) (nl: ¬L j) (hlt: ∀q,L q→q<D.N)
 (bef: ∀q,q<j→dst q=some d→L q) (aft: ∀q,j<q→dst q=some d→ ¬L q) (hℓ:(D.hp j).length≤ℓ) {σ:List AV} (hσ:σ=((List.range j).map vv).reverse):V ok w (ev C σ T (od (((List.range j).map dst).reverse) (.tmp d))) (rr ρ ℓ) (tmps.getD d undef):=by
 have e:od (((List.range j).map dst).reverse) (.tmp d)=(match dq d (((List.range j).map dst).reverse) with|some i=>Od.st i|none=>Od.tr d):=rfl;rw [e]
 cases hi:dq d (((List.range j).map dst).reverse) with
 |some i=>
  obtain ⟨h1,h2,h3⟩:=vF dst d j i hi;show V ok w (oY σ i) _ _
  have:oY σ i=vv (j-1-i):=by
   rw [zl,hσ,List.getElem?_reverse (by simpa using h1)];simp only [BI,List.length_range,Bn];rw [Cy (by omega)];rfl
  rw [this];refine V.up _ (tG ?_) (M.wr d (j-1-i) (bef _ (by omega) h2) h2 (fun q q1 q2=>?_))
  ·exact Bo (O.le j (by omega) (by omega)) hℓ
  ·rcases BN (j-1-i) q with h|h
   ·exfalso
    rcases De q j with g|g|g
    ·exact h3 q h g q2
    ·exact nl (g▸q1)
    ·exact aft q g q2 q1
   ·exact h
 |none=>
  have hn:=j5 dst d j hi;refine V.up _ (tG ?_) (M.un d (fun p hp hd=>?_))
  ·exact Bo (O.le j (by omega) (by omega)) hℓ
  ·rcases De p j with g|g|g
   ·exact hn p g hd
   ·exact nl (g▸hp)
   ·exact aft p g hd hp
theorem DSt.view (O:D.Ok) {ok0:Nat→Prop} {w0:World} {ρi:Rho} {L:Nat→Prop} {k:Nat} {ok:Nat→Prop} {w:World} {ρ:Rho} (S:DSt D C ok0 w0 ρi L k ok w ρ) {j:Nat} (hj:j<D.N) (hn:D.nw j=false) (bj: ∀i,D.B j i→L i) {s:Nat} (ks:k≤s) (sN:s≤D.N) (ne: ∀e,k≤e→e<s→D.ef e=false)
 {g:AH} (hg: ∀n b,ab g n=some b→n<(D.hp j).length∧n∉D.hid j∧ab (D.hp s) n=some b) (hl:(D.hp s).length≤g.length):D.View L k g:=by
 intro n b e;obtain ⟨h1,h2,h3⟩:=hg n b e;obtain ⟨t,t1,t2⟩:=DE.yQ j h1;have hns:n<(D.hp s).length:=cJ (by rw [h3];simp);have ts:=O.yE t2 hns;refine ⟨t,by omega,t2,?_,?_,Bo (O.le s (by omega) sN) hl⟩
 ·cases t with
  |zero=>exact .inl rfl
  |succ i=>
   refine .inr ?_;show L i;have hi:i<D.N:=by omega
   have a1:=t2.1;have a2:=t2.2 i (by omega)
   cases hw:D.nw i with
   |true=>
    refine Classical.byContradiction fun c=>?_
    have:=O.hids j i hj hn (by omega) hw (fun hb=>c (bj i hb)) (by omega)
    have l1:=(O.new i hi hw).2;rw [show (D.hp i).length=n by omega] at this;exact h2 this
   |false=>
    cases hf:D.ef i with
    |true=>
     refine (S.kl i hi hf).2 ?_;rcases BN i k with h|h
     ·exact h
     ·rw [ne i h (by omega)] at hf;cases hf
    |false=>rw [O.rd i hi hw hf] at a1;omega
 ·rw [←h3]
  exact (O.same (Bm t2.1 (O.le _ (by omega) (by omega))) s (by omega) sN (fun e a b c=>by rw [ne e (by omega) b] at c;cases c)).symm
theorem DSt.read (O:D.Ok) {ok0:Nat→Prop} {w0:World} {ρi:Rho} {L:Nat→Prop} {k:Nat} {ok:Nat→Prop} {w:World} {ρ:Rho} (S:DSt D C ok0 w0 ρi L k ok w ρ) {j:Nat} (hj:j<D.N) (hn:D.nw j=false) (hf:D.ef j=false) (bj: ∀i,D.B j i→L i) {L':Nat→Prop} (hL: ∀i,L' i↔(L i∨i=j)):DSt D C ok0 w0 ρi L' k ok w ρ:=by
 have ldn: ∀t,Ld L t→Ld L' t:=fun t h=>h.imp id fun h=>(hL _).2 (.inl h)
 have ldb: ∀n t,D.Own n t→Ld L' t→Ld L t:=by
  intro n t o h;rcases h with h|h
  ·exact .inl h
  ·rcases (hL _).1 h with h|h
   ·exact .inr h
   ·cases t with
    |zero=>exact .inl rfl
    |succ i=>
     have:i=j:=h
     subst this;have a1:=o.1;have a2:=o.2 i (by omega);rw [O.rd i hj hn hf] at a1;omega
 refine ⟨S.kN,fun e he h=>?_,S.ke,fun i hi=>?_,S.okb,S.gl,fun n r e=>?_,fun n t b h1 h0 h2 h3=>S.live n t b h1 h0 (ldb n t h1 h2) h3,fun n m t s r a1 a2 a3 a4 a5 a6=>S.inj n m t s r a1 a2 a3 a4 (ldb n t a1 a5) (ldb m s a2 a6),S.ext⟩
 ·rw [hL,←S.kl e he h]
  constructor
  ·rintro (h1|h1)
   ·exact h1
   ·subst h1;rw [hf] at h;cases h
  ·exact .inl
 ·rcases (hL i).1 hi with hi|rfl
  ·exact ⟨(S.cl i hi).1,fun q hq=>(hL q).2 (.inl ((S.cl i hi).2 q hq))⟩
  ·exact ⟨hj,fun q hq=>(hL q).2 (.inl (bj q hq))⟩
 ·obtain ⟨a,t,b,c,d⟩:=S.dom n r e
  exact ⟨a,t,b,ldn t c,d⟩
end
theorem yN: ∀(a b:List Nat),eqS a b=true→a=b
 |[],[],_=>rfl
 |[],_::_,h=>by cases h
 |_::_,[],h=>by cases h
 |x::a,y::b,h=>by
  have h:bq (Nat.beq x y) (eqS a b) false=true:=h
  cases hx:Nat.beq x y with
  |false=>rw [hx] at h;cases h
  |true=>rw [hx] at h;rw [A8 hx,yN a b h]
mutual
theorem afE: ∀(v u:AV),AV.same v u=true→v=u
 | .bot,u,h=>by cases u<;>first|rfl|cases h
 | .bool b,u,h=>by
   cases u<;>try (cases h;done)
   rename_i c
   have h:oC b c=true:=h;rw [lF] at h
   simp at h;rw [h]
 | .int m n,u,h=>by
   cases u<;>try (cases h;done)
   rename_i m' n'
   have h:and (Nat.beq m m') (cD n n')=true:=h;rw [Ba] at h;rw [A8 h.1]
   have:=h.2
   rw [nX] at this
   simp at this;rw [this]
 | .str l,u,h=>by
   cases u<;>try (cases h;done)
   rename_i l'
   have h:eqS l l'=true:=h;rw [yN l l' h]
 | .nil,u,h=>by cases u<;>first|rfl|cases h
 | .pto b o,u,h=>by
   cases u<;>try (cases h;done)
   rename_i b' o'
   have h:and (Nat.beq b b') (Nat.beq o o')=true:=h;rw [Ba] at h;rw [A8 h.1,A8 h.2]
 | .ptp c o,u,h=>by
   cases u<;>try (cases h;done)
   rename_i c' o'
   have h:and (Nat.beq o o') (AV.same (.agg c) (.agg c'))=true:=h;rw [Ba] at h;rw [A8 h.1,fh c c' h.2]
 | .aa,u,h=>by cases u<;>first|rfl|cases h
 | .slo b o l c z e,u,h=>by
   cases u<;>try (cases h;done)
   rename_i b' o' l' c' z' e'
   have h:and (and (and (Nat.beq b b') (Nat.beq o o')) (and (Nat.beq l l') (Nat.beq c c'))) (and (Nat.beq z z') (oC e e'))=true:=h;simp only [Ba] at h;obtain ⟨⟨⟨h1,h2⟩,h3,h4⟩,h5,h6⟩:=h;rw [lF] at h6
   simp at h6
   rw [A8 h1,A8 h2,A8 h3,A8 h4,A8 h5,h6]
 | .slp c n,u,h=>by
   cases u<;>try (cases h;done)
   rename_i c' n'
   have h:and (Nat.beq n n') (AV.same (.agg c) (.agg c'))=true:=h;rw [Ba] at h;rw [A8 h.1,fh c c' h.2]
 | .sle,u,h=>by cases u<;>first|rfl|cases h
 | .nilm,u,h=>by cases u<;>first|rfl|cases h
 | .mpo b,u,h=>by
   cases u<;>try (cases h;done)
   rename_i b'
   rw [A8 (show Nat.beq b b'=true from h)]
 | .mpp k v,u,h=>by
   cases u<;>try (cases h;done)
   rename_i k' v'
   have h:and (AV.same (.agg k) (.agg k')) (AV.same (.agg v) (.agg v'))=true:=h;rw [Ba] at h;rw [fh k k' h.1,fh v v' h.2]
 | .nilf,u,h=>by cases u<;>first|rfl|cases h
 | .fn f a c,u,h=>by
   cases u<;>try (cases h;done)
   rename_i f' a' c'
   have h:and (Nat.beq f f') (and (AV.same (.agg a) (.agg a')) (AV.same (.agg c) (.agg c')))=true:=h;simp only [Ba] at h;rw [A8 h.1,fh a a' h.2.1,fh c c' h.2.2]
 | .nili,u,h=>by cases u<;>first|rfl|cases h
 | .agg c,u,h=>by
   cases u<;>try (cases h;done)
   rename_i c'
   rw [fh c c' h]
 | .tup c,u,h=>by
   cases u<;>try (cases h;done)
   rename_i c'
   rw [fh c c' h]
theorem fh: ∀(l r:List AV),AV.same (.agg l) (.agg r)=true→l=r
 |[],r,h=>by cases r<;>first|rfl|cases h
 |v::l,r,h=>by
  cases r with
  |nil=>cases h
  |cons u r=>
   have h:and (AV.same v u) (AV.same (.agg l) (.agg r))=true:=h;rw [Ba] at h;rw [afE v u h.1,fh l r h.2]
end
end Go.Proofs.YtemmgalfdmnkoaaGreatDoor
