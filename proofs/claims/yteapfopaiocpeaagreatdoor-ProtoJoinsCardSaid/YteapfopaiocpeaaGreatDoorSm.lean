/- A reader of package scan, as it stands in memory; and what it does, in plain Lean. -/
import Derived.Test.YteapfopaiocpeaaGreatDoorOw
namespace Go.Proofs.YteapfopaiocpeaaGreatDoor
set_option linter.unusedSimpArgs false
set_option linter.unusedVariables false
set_option linter.unnecessarySimpa false
structure PS where
 kind:Nat
 a:Int
 b:Int
 flag:Bool
 mn:Nat
 mx:Nat
 mul:Nat
 add:Nat
 ways:List (Nat×Nat)
 bytes:List Nat
structure PR where
 at_:Nat
 last:Nat
 parts:Nat
 slots:List Nat
 stack:List PT
 counts:List Nat
 calls:List Nat
 code:Nat
 fat:Nat
structure PC where
 data:List Nat
 depth:Nat
 tokens:Nat
def PT.add (u t:PT):PT:=match u with
 | .nd n b d ks=>.nd n b d (ks++[t])
def PR.bh (s:PR) (e a:Nat):PR:=if s.code=0 then {s with code:=e,fat:=a} else s
def PR.open_ (c:PC) (s:PR):PR:=
 (fun s1:PR=>{s1 with parts:=s.parts+1,stack:=.nd 0 false [] []::s.stack}) (if c.depth<s.stack.length then s.bh 218 s.at_ else if c.tokens≤s.parts then s.bh 219 s.at_ else s)
def PR.close (s:PR):PR:=match s.stack with
 |t::u::r=>{s with stack:=u.add t::r}
 |_=>s
def PR.leaf (s:PR) (t:PT):PR:=match s.stack with
 |_::u::r=>{s with stack:=u.add t::r}
 |_=>s
def PR.take (c:PC) (s:PR) (n from_:Nat):List Nat×PR:=
 if 4611686018427387904-from_<n then ([],s.bh 214 from_) else if c.data.length-s.at_<n then ([],s.bh 10 c.data.length) else ((c.data.drop s.at_).take n,{s with at_:=s.at_+n})
def PR.byte (c:PC) (s:PR):Nat×PR:=match c.data[s.at_]? with
 |none=>(0,s.bh 10 c.data.length)
 |some b=>(b,{s with at_:=s.at_+1})
def PR.cC (c:PC) (len:Bool):Nat→Nat→Nat→PR→Nat×PR
 |0,_,_,s=>(0,s)
 |k+1,acc,cnt,s=>if s.code≠0 then (0,s) else
  if (s.byte c).2.code≠0 then (0,(s.byte c).2) else
  if cnt=9∧1<(s.byte c).1 then (0,(s.byte c).2.bh 20 s.last) else
  if 128≤(s.byte c).1 then PR.cC c len k (acc+(s.byte c).1%128*128^cnt) (cnt+1) (s.byte c).2 else
  if len=false∧(s.byte c).1=0∧1≤cnt then (0,(s.byte c).2.bh 21 s.last) else
  (acc+(s.byte c).1%128*128^cnt,(s.byte c).2)
def beN (l:List Nat):Nat:=l.foldl (fun n c=>n*256+c) 0
def ny (little:Bool) (l:List Nat):Nat:=beN (if little then l.reverse else l)
def PR.lD (s:PR) (p:PS) (n:Nat):PR:=
 (fun s1:PR=>(fun s2:PR=>if s2.code=0 then s2.leaf (.nd n false [] []) else s2) (if 0≤p.b then {s1 with slots:=s1.slots.set p.b.toNat n} else s1)) (if s.code=0∧ ¬(p.mn≤n∧n≤p.mx) then s.bh 210 s.last else s)
def PR.number (c:PC) (p:PS) (s:PR):PR:=
 (fun s1:PR=>if s1.code≠0 then s1 else (fun s2:PR=>if p.kind=3 then (s2.take c p.a.toNat s2.at_).2.lD p (ny p.flag (s2.take c p.a.toNat s2.at_).1) else (s2.cC c p.flag 12 0 0).2.lD p (s2.cC c p.flag 12 0 0).1) {s1 with last:=s1.at_}) (s.open_ c)
def PR.many (p:PS) (s:PR):Nat:=if p.a<0 then p.add else s.slots.getD p.a.toNat 0
def PR.vM (c:PC) (p:PS) (s:PR):PR:=
 (fun s1:PR=>if s1.code≠0 then s1 else (s1.take c (s1.many p) s1.at_).2.leaf (.nd 0 false (s1.take c (s1.many p) s1.at_).1 [])) (s.open_ c)
def PR.pick (p:PS) (s:PR):Nat×PR:=
 match p.ways.find? (fun w=>w.1=(if p.add=0 then s.slots.getD p.a.toNat 0 else s.slots.getD p.a.toNat 0%p.add)) with
 |some w=>(w.2,s)
 |none=>if p.b<0 then (0,s.bh 213 s.at_) else (p.b.toNat,s)
def PT.num (t:PT) (n:Nat):PT:=match t with
 | .nd _ b d ks=>.nd n b d ks
def PR.choose (c:PC) (p:PS) (s:PR):Nat×PR:=
 (fun s1:PR=>if s1.code≠0 then (0,s1) else if (s1.byte c).2.code≠0 then (0,(s1.byte c).2) else
  (fun k:Nat=>if k=0 then (0,s1.bh 212 s1.at_) else ((p.ways.getD (k-1) (0,0)).2,{s1 with stack:=match s1.stack with|t::r=>t.num (k-1)::r|[]=>[]})) (p.bytes.getD (s1.byte c).1 0)) (s.open_ c)
def PR.step (c:PC) (p:PS) (i:Nat) (s:PR):Option Nat×PR:=
 if p.kind=1 then (some (i+1),s.open_ c)
 else if p.kind=2 then (some (i+1),s.close)
 else if p.kind=3∨p.kind=4 then (some (i+1),s.number c p)
 else if p.kind=6 then (some (i+1),s.vM c p)
 else if p.kind=9 then (some (i+1),{s.open_ c with counts:=s.many p::s.counts})
 else if p.kind=11 then (some p.a.toNat,s)
 else if p.kind=10 then match s.counts with
  |[]=>(none,s)
  |n::r=>if n=0 then (some p.a.toNat,{s with counts:=r}) else (some (i+1),{s with counts:=(n-1)::r})
 else if p.kind=12 then if s.at_=c.data.length then (some p.a.toNat,s) else (some (i+1),s)
 else if p.kind=13 then (some (s.pick p).1,(s.pick p).2)
 else if p.kind=14 then (some (s.choose c p).1,(s.choose c p).2)
 else if p.kind=15 then (some p.a.toNat,{s with calls:=(i+1)::s.calls})
 else if p.kind=16 then match s.calls with
  |[]=>(none,s)
  |n::r=>(some n,{s with calls:=r})
 else (none,s)
def U64 (n:Nat):AV:=.int 18446744073709551615 (n:Int)
def N64 (n:Nat):AV:=.int 9223372036854775807 (n:Int)
structure RC where
 p0:AV
 p1:AV
 p2:AV
 p3:AV
 p4:AV
 p5:AV
 dv:AV
 inp:Nat
 sm:AV
def rdL (K:RC) (c:PC) (s:PR) (stp:Int) (sl st ct cl:AV):List AV:=
 [K.p0,K.p1,K.p2,K.p3,K.p4,K.p5,K.dv,N64 K.inp,N64 c.depth,N64 c.tokens,N64 s.at_,N64 s.last,N64 s.parts,.int 9223372036854775807 stp,sl,K.sm,st,.nils,ct,cl,N64 s.code,N64 s.fat]
def mC (h:AH) (kd:Nat→Nat):List (List AV)→List PT→Prop
 |[],[]=>True
 |q::Q,t::r=>fK h (fun b=>kd b=6+r.length) q t∧mC h kd Q r
 |_,_=>False
theorem mC.len {h:AH} {kd:Nat→Nat}: ∀{Q:List (List AV)} {r:List PT},mC h kd Q r→Q.length=r.length
 |[],[],_=>rfl
 |[],_::_,x=>x.elim
 |_::_,[],x=>x.elim
 |_::_,_::_,x=>by simp [mC.len x.2]
theorem mC.mono {h h':AH} {kd kd':Nat→Nat}: ∀{Q:List (List AV)} {r:List PT},(∀b,b<h.length→6≤kd b→kd b<6+r.length→kd' b=kd b∧ae h' b=ae h b)→mC h kd Q r→mC h' kd' Q r
 |[],[],_,_=>trivial
 |[],_::_,_,x=>x.elim
 |_::_,[],_,x=>x.elim
 |q::Q,t::r,m,x=>⟨x.1.mono t fun b hb hs=>by
   have:=m b hb (by omega) (by simp;omega)
   exact ⟨by rw [this.1];exact hs,this.2⟩,mC.mono (fun b hb h1 h2=>m b hb h1 (by simp;omega)) x.2⟩
def uv (m:Nat) (h:AH) (v:AV) (cs:List AV):Prop:=hI v cs∨ ∃b o cap e row y,v= .slo b o cs.length cap 1 e∧b<m∧cs.length≤cap∧ae h b=some (.cells row y)∧(row.drop o).take cs.length=cs∧o+cs.length≤row.length
theorem uv.at {m:Nat} {h:AH} {v:AV} {cs:List AV} (d:uv m h v cs):dq h v cs:=by
 rcases d with d|⟨b,o,cap,e,row,y,rfl,_,_,hb,hc,hd⟩
 ·exact d.at h
 ·exact .inr (.inr ⟨b,o,cap,row,y,e,rfl,hb,hc,hd⟩)
theorem uv.frm {m:Nat} {h h':AH} {v:AV} {cs:List AV} (d:uv m h v cs) (f: ∀i,i<m→ae h' i=ae h i):uv m h' v cs:=by
 rcases d with d|⟨b,o,cap,e,row,y,rfl,hm,hcap,hb,hc,hd⟩
 ·exact .inl d
 ·exact .inr ⟨b,o,cap,e,row,y,rfl,hm,hcap,by rw [f b hm];exact hb,hc,hd⟩
theorem uv.cut {m:Nat} {h:AH} {v:AV} {cs:List AV} (d:uv m h v cs) {l u:Nat} (h1:l≤u) (h2:u≤cs.length) (k k':Nat):
 ∃v',(∀(h':AH) (κ:Ka),slS 1 v (some (.int k (l:Int))) (some (.int k' (u:Int))) none h' κ=κ v' h')∧dq h v' ((cs.drop l).take (u-l)):=by
 have hlen:((cs.drop l).take (u-l)).length=u-l:=by rw [List.length_take,List.length_drop];omega
 rcases d with d|⟨b,o,cap,e,row,y,rfl,hm,hcap,hb,hc,hd⟩
 ·by_cases hne:cs=[]
  ·subst hne
   have hu:u=0:=by simpa using h2
   have hl:l=0:=by omega
   subst hu;subst hl
   rcases d with ⟨_,rfl|rfl⟩|rfl
   ·exact ⟨.nils,fun h' κ=>rfl,.inl ⟨rfl,.inl rfl⟩⟩
   ·exact ⟨.sle,fun h' κ=>rfl,.inl ⟨rfl,.inr rfl⟩⟩
   ·exact ⟨.slp [] 0,fun h' κ=>rfl,.inr (.inl ⟨[],rfl,rfl⟩)⟩
  ·refine ⟨_,fun h' κ=>d.cut hne h1 h2 k k' h' κ,.inr (.inl ⟨_,by rw [hlen],by rw [List.take_of_length_le (Nat.le_refl _)]⟩)⟩
 ·have step: ∀(h':AH) (κ:Ka),slS 1 (.slo b o cs.length cap 1 e) (some (.int k (l:Int))) (some (.int k' (u:Int))) none h' κ=bq (decide (l=cap)) (κ .sle h') (κ (.slo b (o+l) (u-l) (cap-l) 1 e) h'):=fun h' κ=>by
   show bq (and (and (Nat.ble l u) (Nat.ble u cap)) (and (Nat.ble cap cap) (or (not false) true))) (bq (Nat.beq 1 1) (bq (Nat.beq l cap) (κ .sle h') (κ (.slo b (Nat.add o (Nat.mul l 1)) (Nat.sub u l) (Nat.sub cap l) 1 (or e false)) h')) none) none=_
   rw [bL,bL,bL,jr,jr,decide_eq_true h1,decide_eq_true (show u≤cap by omega),decide_eq_true (Nat.le_refl _),decide_eq_true rfl,Bool.or_false,show Nat.mul l 1=l from Nat.mul_one _]
   rfl
  by_cases hlc:l=cap
  ·refine ⟨.sle,fun h' κ=>by rw [step,decide_eq_true hlc];rfl,.inl ⟨?_,.inr rfl⟩⟩
   exact List.length_eq_zero_iff.1 (by rw [hlen];omega)
  ·refine ⟨.slo b (o+l) (u-l) (cap-l) 1 e,fun h' κ=>by rw [step,decide_eq_false hlc];rfl,.inr (.inr ⟨b,o+l,cap-l,row,y,e,by rw [hlen],hb,?_,by rw [hlen];omega⟩)⟩
   rw [hlen,←List.drop_drop]
   conv=>rhs;rw [←hc]
   rw [List.drop_take,List.take_take,Nat.min_eq_left (by omega)]
structure RS (m:Nat) (K:RC) (kd:Nat→Nat) (h:AH) (p:Nat) (c:PC) (s:PR):Prop where
 ex: ∃(stp:Int) (y:Nat) (sl st ct cl:AV) (Q:List (List AV)),ae h p=some (.cells (rdL K c s stp sl st ct cl) y)∧OwR h (fun b=>kd b=2) 1 sl (s.slots.map fun n=>[U64 n])∧
  OwR h (fun b=>kd b=3) 4 st Q.reverse∧mC h kd Q s.stack∧OwR h (fun b=>kd b=4) 1 ct (s.counts.reverse.map fun n=>[U64 n])∧OwR h (fun b=>kd b=5) 1 cl (s.calls.reverse.map fun n=>[N64 n])
 kp:kd p=1
 lo: ∀i,i<m→kd i=0
 ml:m≤h.length
 dat:uv m h K.dv (aS c.data)
 inp:c.data.length≤K.inp∧K.inp≤1000000000000
 byt: ∀b∈c.data,b<256
 len:c.data.length≤1000000
def Nx (n:Nat) (m:Nat) (K:RC) (kd:Nat→Nat) (h:AH) (p:Nat) (c:PC) (s:PR) (h':AH):Prop:=∃kd',RS m K kd' h' p c s∧h.length≤h'.length∧ ∀i,i<n→kd i=0→ae h' i=ae h i∧kd' i=0
section
variable {m:Nat} {K:RC} {kd:Nat→Nat} {h:AH} {p:Nat} {c:PC} {s:PR} {κ:Ka}
theorem dq.frm {v:AV} {cs:List AV} {h':AH} (r:dq h v cs) (hl:v.lt m=true) (f: ∀i,i<m→ae h' i=ae h i):dq h' v cs:=by
 rcases r with r|r|⟨b,o,n,row,y,e,rfl,hb,hc,hd⟩
 ·exact .inl r
 ·exact .inr (.inl r)
 ·rw [oG,decide_eq_true_iff] at hl
  exact .inr (.inr ⟨b,o,n,row,y,e,rfl,by rw [f b hl];exact hb,hc,hd⟩)
def cN (kd:Nat→Nat) (n c:Nat):Nat→Nat:=fun i=>if i<n then kd i else c
theorem bR {n c i:Nat} (h:i<n):cN kd n c i=kd i:=if_pos h
theorem fP {n c i:Nat} (h:n≤i):cN kd n c i=c:=if_neg (by omega)
theorem RS.grow {h':AH} (R:RS m K kd h p c s) (hl:h.length≤h'.length) (f: ∀i,i<h.length→ae h' i=ae h i):RS m K (cN kd h.length 0) h' p c s:=by
 obtain ⟨stp,y,sl,st,ct,cl,Q,hp,o2,o3,ok,o4,o5⟩:=R.ex
 have hpl:=aO hp
 have mm: ∀{j:Nat} b,b<h.length→kd b=j→cN kd h.length 0 b=j∧ae h' b=ae h b:=fun b hb e=>⟨by rw [bR hb];exact e,f b hb⟩
 refine ⟨⟨stp,y,sl,st,ct,cl,Q,by rw [f p hpl];exact hp,o2.mono mm,o3.mono mm,ok.mono (fun b hb _ _=>⟨bR hb,f b hb⟩),o4.mono mm,o5.mono mm⟩,by rw [bR hpl];exact R.kp,fun i hi=>?_,Nat.le_trans R.ml hl,R.dat.frm (fun i hi=>f i (Nat.lt_of_lt_of_le hi R.ml)),R.inp,R.byt,R.len⟩
 rw [bR (Nat.lt_of_lt_of_le hi R.ml)];exact R.lo i hi
theorem RS.upd {s':PR} {stp':Int} {y':Nat} {sl st ct cl:AV} {Q:List (List AV)} (R:RS m K kd h p c s)
 (o2:OwR h (fun b=>kd b=2) 1 sl (s'.slots.map fun n=>[U64 n])) (o3:OwR h (fun b=>kd b=3) 4 st Q.reverse) (ok:mC h kd Q s'.stack) (o4:OwR h (fun b=>kd b=4) 1 ct (s'.counts.reverse.map fun n=>[U64 n])) (o5:OwR h (fun b=>kd b=5) 1 cl (s'.calls.reverse.map fun n=>[N64 n])):
 RS m K kd (h.set p (some (.cells (rdL K c s' stp' sl st ct cl) y'))) p c s':=by
 obtain ⟨_,_,_,_,_,_,_,hp,_⟩:=R.ex
 have hpl:=aO hp
 have mm: ∀{j:Nat},j≠1→ ∀b,b<h.length→kd b=j→kd b=j∧ae (h.set p (some (.cells (rdL K c s' stp' sl st ct cl) y'))) b=ae h b:=fun hj b hb e=>⟨e,ai (fun cc=>hj (by rw [←e,←cc];exact R.kp)) _⟩
 refine ⟨⟨stp',y',sl,st,ct,cl,Q,az hpl _,o2.mono (mm (by decide)),o3.mono (mm (by decide)),ok.mono (fun b hb h1 _=>(mm (j:=kd b) (by omega) b hb rfl)),o4.mono (mm (by decide)),o5.mono (mm (by decide))⟩,R.kp,R.lo,by rw [List.length_set];exact R.ml,R.dat.frm (fun i hi=>?_),R.inp,R.byt,R.len⟩
 rw [ai]
 intro cc
 have h1:=R.lo i hi
 have h2:=R.kp
 rw [cc,h1] at h2;cases h2
theorem RS.make {kd':Nat→Nat} {h':AH} {s':PR} {stp':Int} {y':Nat} {sl st ct cl:AV} {Q:List (List AV)} (R:RS m K kd h p c s) (kp:kd' p=1) (lo: ∀i,i<m→kd' i=0∧ae h' i=ae h i) (ml:h.length≤h'.length)
 (hp:ae h' p=some (.cells (rdL K c s' stp' sl st ct cl) y')) (o2:OwR h' (fun b=>kd' b=2) 1 sl (s'.slots.map fun n=>[U64 n])) (o3:OwR h' (fun b=>kd' b=3) 4 st Q.reverse) (ok:mC h' kd' Q s'.stack) (o4:OwR h' (fun b=>kd' b=4) 1 ct (s'.counts.reverse.map fun n=>[U64 n])) (o5:OwR h' (fun b=>kd' b=5) 1 cl (s'.calls.reverse.map fun n=>[N64 n])):
 RS m K kd' h' p c s':=
 ⟨⟨stp',y',sl,st,ct,cl,Q,hp,o2,o3,ok,o4,o5⟩,kp,fun i hi=>(lo i hi).1,Nat.le_trans R.ml ml,R.dat.frm (fun i hi=>(lo i hi).2),R.inp,R.byt,R.len⟩
theorem RS.iI {i:Nat} (R:RS m K kd h p c s) (hi:kd i=0):p≠i:=fun cc=>by
 have:=R.kp
 rw [cc,hi] at this;cases this
end
end Go.Proofs.YteapfopaiocpeaaGreatDoor
