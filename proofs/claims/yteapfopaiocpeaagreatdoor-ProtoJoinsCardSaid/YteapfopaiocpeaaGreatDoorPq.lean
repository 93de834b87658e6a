/- Runs of a program of package scan in plain Lean: single steps. -/
import Derived.Test.YteapfopaiocpeaaGreatDoorPv
import Derived.Test.YteapfopaiocpeaaGreatDoorSz
namespace Go.Proofs.YteapfopaiocpeaaGreatDoor
def PR.mk0 (a l p:Nat) (sl:List Nat) (st:List PT) (ct cl:List Nat):PR:=⟨a,l,p,sl,st,ct,cl,0,0⟩
structure Wg (c:PC) (a l p:Nat) (st:List PT):Prop where
 at_:a≤c.data.length
 last:l≤c.data.length
 parts:p+1≤c.tokens
 stk:st.length≤c.depth
structure Ok (c:PC):Prop where
 len:c.data.length≤100000
 dep:c.depth≤90000
 tok:c.tokens≤900000000
section
variable {c:PC} {P:List PS} {a l p:Nat} {sl:List Nat} {st:List PT} {ct cl:List Nat} {i:Nat} {q:PS} {t:PR} {n:Nat}
theorem sM (W:Wg c a l p st):(PR.mk0 a l p sl st ct cl).open_ c=PR.mk0 a l (p+1) sl (.nd 0 false [] []::st) ct cl:=by
 have h1: ¬c.depth<st.length:=Nat.not_lt.2 W.stk
 have h2: ¬c.tokens≤p:=by have:=W.parts;omega
 show (fun s1:PR=>{s1 with parts:=p+1,stack:=.nd 0 false [] []::st}) (if c.depth<st.length then _ else if c.tokens≤p then _ else _)=_
 rw [if_neg h1,if_neg h2];rfl
theorem wf0 (O:Ok c) (W:Wg c a l p st):Wf c (PR.mk0 a l p sl st ct cl)∧Wf c ((PR.mk0 a l p sl st ct cl).open_ c):=by
 have h1:=O.len;have h2:=O.dep;have h3:=O.tok;have h4:=W.parts;have h5:=W.stk
 refine ⟨⟨W.at_,W.last,?_,by omega,?_⟩,?_⟩
 ·show p≤_;omega
 ·show st.length≤_;omega
 ·rw [sM W]
  refine ⟨W.at_,W.last,?_,by omega,?_⟩
  ·show p+1≤_;omega
  ·show (st.length+1)≤_;omega
theorem go (O:Ok c) (W:Wg c a l p st) (eq:P[i]? =some q) (pre:ab6 c q (PR.mk0 a l p sl st ct cl)) {j:Nat} {s':PR} (es:(PR.mk0 a l p sl st ct cl).step c q i=(some j,s')) (r:cq c P j s' t n):cq c P i (PR.mk0 a l p sl st ct cl) t (n+1):=by
 obtain ⟨w1,w2⟩:=wf0 (sl:=sl) (ct:=ct) (cl:=cl) O W
 exact .next rfl eq w1 w2 pre (j:=j) (by rw [es]) (by rw [es];exact r)
theorem tF (O:Ok c) (W:Wg c a l p st) (eq:P[i]? =some q) (k:q.kind=1) (r:cq c P (i+1) (PR.mk0 a l (p+1) sl (.nd 0 false [] []::st) ct cl) t n):cq c P i (PR.mk0 a l p sl st ct cl) t (n+1):=
 go O W eq (.opn k) (by rw [PR.step,if_pos k,sM W]) r
theorem pY {u v:PT} {r:List PT} (O:Ok c) (W:Wg c a l p (u::v::r)) (eq:P[i]? =some q) (k:q.kind=2) (hv: ∀n b d ks,v= .nd n b d ks→ks.length≤90000∧d=[]) (r':cq c P (i+1) (PR.mk0 a l p sl (v.add u::r) ct cl) t n):cq c P i (PR.mk0 a l p sl (u::v::r) ct cl) t (n+1):=by
 have h1:=W.stk;have h2:=O.dep
 simp only [List.length_cons] at h1
 exact go O W eq (.cls k u v r rfl (by omega) hv) (by rw [PR.step,if_neg (by omega),if_pos k];rfl) r'
theorem qz (O:Ok c) (W:Wg c a l p st) (eq:P[i]? =some q) (k:q.kind=11) {j:Nat} (hj:q.a=(j:Int)) (r:cq c P j (PR.mk0 a l p sl st ct cl) t n):cq c P i (PR.mk0 a l p sl st ct cl) t (n+1):=
 go O W eq (.jump k (by omega)) (by simp [PR.step,k,hj]) r
theorem aoB (O:Ok c) (W:Wg c a l p st) (eq:P[i]? =some q) (k:q.kind=12) (hj:0≤q.a) (h:a<c.data.length) (r:cq c P (i+1) (PR.mk0 a l p sl st ct cl) t n):cq c P i (PR.mk0 a l p sl st ct cl) t (n+1):=
 go O W eq (.many k hj) (by
  have: ¬a=c.data.length:=by omega
  simp [PR.step,k,PR.mk0,this]) r
theorem abj (O:Ok c) (W:Wg c a l p st) (eq:P[i]? =some q) (k:q.kind=12) {j:Nat} (hj:q.a=(j:Int)) (h:a=c.data.length) (r:cq c P j (PR.mk0 a l p sl st ct cl) t n):cq c P i (PR.mk0 a l p sl st ct cl) t (n+1):=
 go O W eq (.many k (by omega)) (by simp [PR.step,k,hj,PR.mk0,h]) r
theorem aoG (O:Ok c) (W:Wg c a l p st) (eq:P[i]? =some q) (k:q.kind=15) {j:Nat} (hj:q.a=(j:Int)) (hc:cl.length≤100000) (r:cq c P j (PR.mk0 a l p sl st ct ((i+1)::cl)) t n):cq c P i (PR.mk0 a l p sl st ct cl) t (n+1):=
 go O W eq (.call k (by omega) hc) (by simp [PR.step,k,hj,PR.mk0]) r
theorem aq9 {j:Nat} (O:Ok c) (W:Wg c a l p st) (eq:P[i]? =some q) (k:q.kind=16) (hc:(j::cl).length≤100000) (r:cq c P j (PR.mk0 a l p sl st ct cl) t n):cq c P i (PR.mk0 a l p sl st ct (j::cl)) t (n+1):=
 go O W eq (.ret k (by simp [PR.mk0]) hc) (by simp [PR.step,k,PR.mk0]) r
theorem aqG (O:Ok c) (W:Wg c a l p st) (eq:P[i]? =some q) (k:q.kind=20):cq c P i (PR.mk0 a l p sl st ct cl) (PR.mk0 a l p sl st ct cl) 1:=by
 obtain ⟨w1,w2⟩:=wf0 (sl:=sl) (ct:=ct) (cl:=cl) O W
 have:(PR.mk0 a l p sl st ct cl).step c q i=(none,PR.mk0 a l p sl st ct cl):=by simp [PR.step,k]
 have:=cq.stop (c:=c) (P:=P) rfl eq w1 w2 (.fin k) (by rw [this])
 rwa [show ((PR.mk0 a l p sl st ct cl).step c q i).2=PR.mk0 a l p sl st ct cl by simp [PR.step,k]] at this
theorem an2 (O:Ok c) (W:Wg c a l p st) (eq:P[i]? =some q) (k:q.kind=13) (hw:q.ways.length≤1000000) (ha:0≤q.a) (hs:q.a<(sl.length:Int)) (hx: ∀x∈sl,x<18446744073709551616) {v:Nat} (hv:(if q.add=0 then sl.getD q.a.toNat 0 else sl.getD q.a.toNat 0%q.add)=v) {w:Nat×Nat} (hf:q.ways.find? (fun w=>w.1=v)=some w)
 (r:cq c P w.2 (PR.mk0 a l p sl st ct cl) t n):cq c P i (PR.mk0 a l p sl st ct cl) t (n+1):=
 go O W eq (.pick k hw ha hs hx) (by
  have:(PR.mk0 a l p sl st ct cl).pick q=(w.2,PR.mk0 a l p sl st ct cl):=by
   unfold PR.pick
   show (match q.ways.find? (fun w=>w.1=(if q.add=0 then sl.getD q.a.toNat 0 else sl.getD q.a.toNat 0%q.add)) with|some w=>_|none=>_)=_
   rw [hv,hf]
  simp [PR.step,k,this]) r
theorem abN (O:Ok c) (W:Wg c a l p st) (eq:P[i]? =some q) (k:q.kind=13) (hw:q.ways.length≤1000000) (ha:0≤q.a) (hs:q.a<(sl.length:Int)) (hx: ∀x∈sl,x<18446744073709551616) {v:Nat} (hv:(if q.add=0 then sl.getD q.a.toNat 0 else sl.getD q.a.toNat 0%q.add)=v) (hf:q.ways.find? (fun w=>w.1=v)=none) (hb:q.b<0):
 ∃t,cq c P i (PR.mk0 a l p sl st ct cl) t 1∧t.code≠0∧t.at_≤c.data.length:=by
 have h0:((PR.mk0 a l p sl st ct cl).bh 213 a).code≠0:=by show (213:Nat)≠0;decide
 refine ⟨(PR.mk0 a l p sl st ct cl).bh 213 a,go O W eq (.pick k hw ha hs hx) (j:=0) ?_ (.bad _ _ h0),h0,W.at_⟩
 have:(PR.mk0 a l p sl st ct cl).pick q=(0,(PR.mk0 a l p sl st ct cl).bh 213 a):=by
  unfold PR.pick
  show (match q.ways.find? (fun w=>w.1=(if q.add=0 then sl.getD q.a.toNat 0 else sl.getD q.a.toNat 0%q.add)) with|some w=>_|none=>_)=_
  rw [hv,hf]
  show (if q.b<0 then _ else _)=_
  rw [if_pos hb];rfl
 simp [PR.step,k,this]
theorem oS {s:PR} (h:s.code=0) (e x:Nat):(s.bh e x).code=e:=by unfold PR.bh;rw [if_pos h]
theorem km (s:PR) (e x:Nat):(s.bh e x).at_=s.at_:=by unfold PR.bh;split<;>rfl
theorem byte_at (s:PR) (h:s.at_≤c.data.length):(s.byte c).2.at_≤c.data.length:=by
 unfold PR.byte
 cases e:c.data[s.at_]? with
 |none=>show (s.bh _ _).at_≤_;rw [km];exact h
 |some b=>exact (List.getElem?_eq_some_iff.1 e).1
theorem we (len:Bool): ∀(k acc cnt:Nat) (s:PR),s.at_≤c.data.length→(s.cC c len k acc cnt).2.at_≤c.data.length
 |0,_,_,s,h=>h
 |k+1,acc,cnt,s,h=>by
  have hb:=byte_at (c:=c) s h
  unfold PR.cC
  split
  ·exact h
  ·split
   ·exact hb
   ·split
    ·show (PR.bh _ _ _).at_≤_;rw [km];exact hb
    ·split
     ·exact we len k _ _ _ hb
     ·split
      ·show (PR.bh _ _ _).at_≤_;rw [km];exact hb
      ·exact hb
theorem yl (s:PR) (x:PT):(s.leaf x).at_=s.at_:=by unfold PR.leaf;split<;>rfl
theorem ahI (s:PR) (x:PT):(s.leaf x).code=s.code:=by unfold PR.leaf;split<;>rfl
theorem adV (s:PR) (q:PS) (n:Nat):(s.lD q n).at_=s.at_:=by
 have e1:(if s.code=0∧ ¬(q.mn≤n∧n≤q.mx) then s.bh 210 s.last else s).at_=s.at_:=by split<;>simp [km]
 unfold PR.lD
 generalize (if s.code=0∧ ¬(q.mn≤n∧n≤q.mx) then s.bh 210 s.last else s)=s1 at*
 rw [←e1]
 by_cases hb:0≤q.b
 ·simp only [if_pos hb]
  split
  ·rw [yl]
  ·rfl
 ·simp only [if_neg hb]
  split
  ·rw [yl]
  ·rfl
theorem uF (s:PR) (q:PS) (n:Nat) (h:s.code≠0∨ ¬(q.mn≤n∧n≤q.mx)):(s.lD q n).code≠0:=by
 unfold PR.lD
 have e1:(if s.code=0∧ ¬(q.mn≤n∧n≤q.mx) then s.bh 210 s.last else s).code≠0:=by
  by_cases h0:s.code=0
  ·have h2: ¬(q.mn≤n∧n≤q.mx):=h.resolve_left (fun c=>c h0)
   rw [if_pos ⟨h0,h2⟩]
   rw [oS h0];decide
  ·rw [if_neg (fun c=>h0 c.1)];exact h0
 generalize (if s.code=0∧ ¬(q.mn≤n∧n≤q.mx) then s.bh 210 s.last else s)=s1 at*
 by_cases hb:0≤q.b
 ·simp only [if_pos hb]
  rw [if_neg e1];exact e1
 ·simp only [if_neg hb]
  rw [if_neg e1];exact e1
theorem ae3 (a l p:Nat) (sl:List Nat) (u v:PT) (r:List PT) (ct cl:List Nat) (q:PS) (n:Nat) (hb:0≤q.b) (h:q.mn≤n∧n≤q.mx):(PR.mk0 a l p sl (u::v::r) ct cl).lD q n=PR.mk0 a l p (sl.set q.b.toNat n) (v.add (.nd n false [] [])::r) ct cl:=by
 unfold PR.lD
 have e1:(if (PR.mk0 a l p sl (u::v::r) ct cl).code=0∧ ¬(q.mn≤n∧n≤q.mx) then (PR.mk0 a l p sl (u::v::r) ct cl).bh 210 (PR.mk0 a l p sl (u::v::r) ct cl).last else PR.mk0 a l p sl (u::v::r) ct cl)=PR.mk0 a l p sl (u::v::r) ct cl:=if_neg fun c=>c.2 h
 simp only [e1,if_pos hb]
 rfl
theorem ac3 {v:PT} {r:List PT} (O:Ok c) (W:Wg c a l p (v::r)) (eq:P[i]? =some q) (k:q.kind=4) (kf:q.flag=true) (hb:0≤q.b) (hb2:q.b<(sl.length:Int)) (hv: ∀n b d ks,v= .nd n b d ks→ks.length≤90000∧d=[]) {x m:Nat} (hx:bz 0 0 (c.data.drop a)=(0,x,m)) (hr:q.mn≤x∧x≤q.mx)
 (r':cq c P (i+1) (PR.mk0 (a+m) a (p+1) (sl.set q.b.toNat x) (v.add (.nd x false [] [])::r) ct cl) t n):cq c P i (PR.mk0 a l p sl (v::r) ct cl) t (n+1):=by
 have h1:=W.stk;have h2:=O.dep
 simp only [List.length_cons] at h1
 refine go O W eq (.num (.inr ⟨k,kf⟩) hb2 ⟨v,r,rfl,by omega,hv⟩) ?_ r'
 rw [PR.step,if_neg (by omega),if_neg (by omega),if_pos (.inr k),PR.number,sM W]
 have k3: ¬q.kind=3:=by omega
 have k0: ¬(PR.mk0 a l (p+1) sl (.nd 0 false [] []::v::r) ct cl).code≠0:=fun c=>c rfl
 simp only [if_neg k0,if_neg k3,kf]
 obtain ⟨hv1,hv2⟩:=mP c 12 0 0 (PR.mk0 a a (p+1) sl (.nd 0 false [] []::v::r) ct cl) rfl (by omega) (by omega)
 have e0:c.data.drop (PR.mk0 a a (p+1) sl (.nd 0 false [] []::v::r) ct cl).at_=c.data.drop a:=rfl
 rw [e0,hx] at hv1
 obtain ⟨_,e⟩:=hv1 rfl
 have e':(PR.mk0 a a (p+1) sl (.nd 0 false [] []::v::r) ct cl).cC c true 12 0 0=(x,PR.mk0 (a+m) a (p+1) sl (.nd 0 false [] []::v::r) ct cl):=e
 show (some (i+1),((PR.mk0 a a (p+1) sl (.nd 0 false [] []::v::r) ct cl).cC c true 12 0 0).2.lD q ((PR.mk0 a a (p+1) sl (.nd 0 false [] []::v::r) ct cl).cC c true 12 0 0).1)=_
 rw [e',ae3 _ _ _ _ _ _ _ _ _ _ _ hb hr]
theorem oL {v:PT} {r:List PT} (O:Ok c) (W:Wg c a l p (v::r)) (eq:P[i]? =some q) (k:q.kind=4) (kf:q.flag=true) (hb2:q.b<(sl.length:Int)) (hv: ∀n b d ks,v= .nd n b d ks→ks.length≤90000∧d=[]) (hx:(bz 0 0 (c.data.drop a)).1≠0∨ ¬(q.mn≤(bz 0 0 (c.data.drop a)).2.1∧(bz 0 0 (c.data.drop a)).2.1≤q.mx)):
 ∃t,cq c P i (PR.mk0 a l p sl (v::r) ct cl) t 1∧t.code≠0∧t.at_≤c.data.length:=by
 have h1:=W.stk;have h2:=O.dep
 simp only [List.length_cons] at h1
 have k3: ¬q.kind=3:=by omega
 have k0: ¬(PR.mk0 a l (p+1) sl (.nd 0 false [] []::v::r) ct cl).code≠0:=fun c=>c rfl
 obtain ⟨hv1,hv2⟩:=mP c 12 0 0 (PR.mk0 a a (p+1) sl (.nd 0 false [] []::v::r) ct cl) rfl (by omega) (by omega)
 have e0:c.data.drop (PR.mk0 a a (p+1) sl (.nd 0 false [] []::v::r) ct cl).at_=c.data.drop a:=rfl
 rw [e0] at hv1 hv2
 have hat:=we (c:=c) true 12 0 0 (PR.mk0 a a (p+1) sl (.nd 0 false [] []::v::r) ct cl) W.at_
 obtain ⟨X,hX⟩: ∃X,X=(PR.mk0 a a (p+1) sl (.nd 0 false [] []::v::r) ct cl).cC c true 12 0 0:=⟨_,rfl⟩
 have bad:(X.2.lD q X.1).code≠0:=by
  refine uF _ _ _ ?_
  by_cases h0:(bz 0 0 (c.data.drop a)).1=0
  ·rw [hX,(hv1 h0).2]
   exact .inr (hx.resolve_left fun c=>c h0)
  ·rw [hX];exact .inl (hv2 h0)
 refine ⟨X.2.lD q X.1,go O W eq (.num (.inr ⟨k,kf⟩) hb2 ⟨v,r,rfl,by omega,hv⟩) (j:=i+1) ?_ (.bad _ _ bad),bad,?_⟩
 ·rw [PR.step,if_neg (by omega),if_neg (by omega),if_pos (.inr k),PR.number,sM W]
  simp only [if_neg k0,if_neg k3,kf]
  rw [hX];rfl
 ·rw [adV,hX];exact hat
theorem yT (a l p:Nat) (sl:List Nat) (st:List PT) (ct cl:List Nat) {m:Nat} (O:Ok c) (ha:a≤c.data.length) (h:m≤c.data.length-a):(PR.mk0 a l p sl st ct cl).take c m a=((c.data.drop a).take m,PR.mk0 (a+m) l p sl st ct cl):=by
 have:=O.len
 unfold PR.take
 rw [if_neg (by omega),if_neg (show ¬c.data.length-(PR.mk0 a l p sl st ct cl).at_<m from Nat.not_lt.2 h)];rfl
theorem aat (a l p:Nat) (sl:List Nat) (st:List PT) (ct cl:List Nat) {m:Nat} (h:c.data.length-a<m):((PR.mk0 a l p sl st ct cl).take c m a).2.code≠0∧((PR.mk0 a l p sl st ct cl).take c m a).2.at_=a:=by
 unfold PR.take
 split
 ·exact ⟨by show (PR.bh _ _ _).code≠0;rw [oS rfl];decide,km _ _ _⟩
 ·rw [if_pos (show c.data.length-(PR.mk0 a l p sl st ct cl).at_<m from h)]
  exact ⟨by show (PR.bh _ _ _).code≠0;rw [oS rfl];decide,km _ _ _⟩
theorem aiH {v:PT} {r:List PT} (O:Ok c) (W:Wg c a l p (v::r)) (eq:P[i]? =some q) (k:q.kind=3) {m:Nat} (hm:q.a=(m:Int)) (hm1:1≤m) (hm8:m≤8) (hb:0≤q.b) (hb2:q.b<(sl.length:Int)) (hv: ∀n b d ks,v= .nd n b d ks→ks.length≤90000∧d=[]) {x:Nat} (hl:a+m≤c.data.length) (hx:ny q.flag ((c.data.drop a).take m)=x) (hr:q.mn≤x∧x≤q.mx)
 (r':cq c P (i+1) (PR.mk0 (a+m) a (p+1) (sl.set q.b.toNat x) (v.add (.nd x false [] [])::r) ct cl) t n):cq c P i (PR.mk0 a l p sl (v::r) ct cl) t (n+1):=by
 have h1:=W.stk;have h2:=O.dep
 simp only [List.length_cons] at h1
 refine go O W eq (.num (.inl ⟨k,by omega,by omega⟩) hb2 ⟨v,r,rfl,by omega,hv⟩) ?_ r'
 rw [PR.step,if_neg (by omega),if_neg (by omega),if_pos (.inl k),PR.number,sM W]
 have k0: ¬(PR.mk0 a l (p+1) sl (.nd 0 false [] []::v::r) ct cl).code≠0:=fun c=>c rfl
 have e0:q.a.toNat=m:=by omega
 simp only [if_neg k0,if_pos k,e0]
 show (some (i+1),((PR.mk0 a a (p+1) sl (.nd 0 false [] []::v::r) ct cl).take c m a).2.lD q (ny q.flag ((PR.mk0 a a (p+1) sl (.nd 0 false [] []::v::r) ct cl).take c m a).1))=_
 rw [yT _ _ _ _ _ _ _ O W.at_ (by omega)]
 show (some (i+1),(PR.mk0 (a+m) a (p+1) sl (.nd 0 false [] []::v::r) ct cl).lD q (ny q.flag ((c.data.drop a).take m)))=_
 rw [hx,ae3 _ _ _ _ _ _ _ _ _ _ _ hb hr]
theorem vn {v:PT} {r:List PT} (O:Ok c) (W:Wg c a l p (v::r)) (eq:P[i]? =some q) (k:q.kind=3) {m:Nat} (hm:q.a=(m:Int)) (hm1:1≤m) (hm8:m≤8) (hb2:q.b<(sl.length:Int)) (hv: ∀n b d ks,v= .nd n b d ks→ks.length≤90000∧d=[]) (hx:c.data.length<a+m∨ ¬(q.mn≤ny q.flag ((c.data.drop a).take m)∧ny q.flag ((c.data.drop a).take m)≤q.mx)):
 ∃t,cq c P i (PR.mk0 a l p sl (v::r) ct cl) t 1∧t.code≠0∧t.at_≤c.data.length:=by
 have h1:=W.stk;have h2:=O.dep
 simp only [List.length_cons] at h1
 have k0: ¬(PR.mk0 a l (p+1) sl (.nd 0 false [] []::v::r) ct cl).code≠0:=fun c=>c rfl
 have e0:q.a.toNat=m:=by omega
 obtain ⟨X,hX⟩: ∃X,X=(PR.mk0 a a (p+1) sl (.nd 0 false [] []::v::r) ct cl).take c m a:=⟨_,rfl⟩
 have hb:(X.2.lD q (ny q.flag X.1)).code≠0∧X.2.at_≤c.data.length:=by
  by_cases hl:c.data.length<a+m
  ·have:=aat (c:=c) a a (p+1) sl (.nd 0 false [] []::v::r) ct cl (m:=m) (by have:=W.at_;omega)
   rw [←hX] at this
   exact ⟨uF _ _ _ (.inl this.1),by rw [this.2];exact W.at_⟩
  ·rw [yT _ _ _ _ _ _ _ O W.at_ (by omega)] at hX
   subst hX
   exact ⟨uF _ _ _ (.inr (hx.resolve_left hl)),by show a+m≤_;omega⟩
 refine ⟨X.2.lD q (ny q.flag X.1),go O W eq (.num (.inl ⟨k,by omega,by omega⟩) hb2 ⟨v,r,rfl,by omega,hv⟩) (j:=i+1) ?_ (.bad _ _ hb.1),hb.1,?_⟩
 ·rw [PR.step,if_neg (by omega),if_neg (by omega),if_pos (.inl k),PR.number,sM W]
  simp only [if_neg k0,if_pos k,e0]
  rw [hX];rfl
 ·rw [adV];exact hb.2
theorem am6 {v:PT} {r:List PT} (O:Ok c) (W:Wg c a l p (v::r)) (eq:P[i]? =some q) (k:q.kind=6) (hq:ah6 q (PR.mk0 a l p sl (v::r) ct cl)) {m:Nat} (hm:(if q.a<0 then q.add else sl.getD q.a.toNat 0)=m) (hl:a+m≤c.data.length) (hv: ∀n b d ks,v= .nd n b d ks→ks.length≤90000∧d=[])
 (r':cq c P (i+1) (PR.mk0 (a+m) l (p+1) sl (v.add (.nd 0 false ((c.data.drop a).take m) [])::r) ct cl) t n):cq c P i (PR.mk0 a l p sl (v::r) ct cl) t (n+1):=by
 have h1:=W.stk;have h2:=O.dep
 simp only [List.length_cons] at h1
 refine go O W eq (.vM k hq ⟨v,r,rfl,by omega,hv⟩) ?_ r'
 rw [PR.step,if_neg (by omega),if_neg (by omega),if_neg (by omega),if_pos k,PR.vM,sM W]
 have k0: ¬(PR.mk0 a l (p+1) sl (.nd 0 false [] []::v::r) ct cl).code≠0:=fun c=>c rfl
 have e0:(PR.mk0 a l (p+1) sl (.nd 0 false [] []::v::r) ct cl).many q=m:=hm
 simp only [if_neg k0,e0]
 show (some (i+1),((PR.mk0 a l (p+1) sl (.nd 0 false [] []::v::r) ct cl).take c m a).2.leaf (.nd 0 false ((PR.mk0 a l (p+1) sl (.nd 0 false [] []::v::r) ct cl).take c m a).1 []))=_
 rw [yT _ _ _ _ _ _ _ O W.at_ (by omega)];rfl
theorem zN {v:PT} {r:List PT} (O:Ok c) (W:Wg c a l p (v::r)) (eq:P[i]? =some q) (k:q.kind=6) (hq:ah6 q (PR.mk0 a l p sl (v::r) ct cl)) {m:Nat} (hm:(if q.a<0 then q.add else sl.getD q.a.toNat 0)=m) (hl:c.data.length<a+m) (hv: ∀n b d ks,v= .nd n b d ks→ks.length≤90000∧d=[]):
 ∃t,cq c P i (PR.mk0 a l p sl (v::r) ct cl) t 1∧t.code≠0∧t.at_≤c.data.length:=by
 have h1:=W.stk;have h2:=O.dep
 simp only [List.length_cons] at h1
 have k0: ¬(PR.mk0 a l (p+1) sl (.nd 0 false [] []::v::r) ct cl).code≠0:=fun c=>c rfl
 have e0:(PR.mk0 a l (p+1) sl (.nd 0 false [] []::v::r) ct cl).many q=m:=hm
 obtain ⟨b1,b2⟩:=aat (c:=c) a l (p+1) sl (.nd 0 false [] []::v::r) ct cl (m:=m) (by have:=W.at_;omega)
 obtain ⟨X,hX⟩: ∃X,X=(PR.mk0 a l (p+1) sl (.nd 0 false [] []::v::r) ct cl).take c m a:=⟨_,rfl⟩
 rw [←hX] at b1 b2
 have hb:(X.2.leaf (.nd 0 false X.1 [])).code≠0:=by rw [ahI];exact b1
 refine ⟨X.2.leaf (.nd 0 false X.1 []),go O W eq (.vM k hq ⟨v,r,rfl,by omega,hv⟩) (j:=i+1) ?_ (.bad _ _ hb),hb,by rw [yl,b2];exact W.at_⟩
 rw [PR.step,if_neg (by omega),if_neg (by omega),if_neg (by omega),if_pos k,PR.vM,sM W]
 simp only [if_neg k0,e0]
 rw [hX];rfl
end
end Go.Proofs.YteapfopaiocpeaaGreatDoor
