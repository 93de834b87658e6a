/- Contracts of this program, and what they tell in plain Lean. -/
import Derived.Test.YtemmgalfdmnkoaaGreatDoorLA
import Derived.Test.YtemmgalfdmnkoaaGreatDoorLC
namespace Go.Proofs.YtemmgalfdmnkoaaGreatDoor
set_option linter.unusedSimpArgs false
set_option linter.unusedVariables false
set_option linter.unnecessarySimpa false
set_option linter.defProp false
def PR.mk0 (a l p:Nat) (sl:List Nat) (st:List PT) (ct cl:List Nat):PR:=⟨a,l,p,sl,st,ct,cl,0,0⟩
structure Wg (c:PC) (a l p:Nat) (st:List PT):Prop where
 at_:a≤c.data.length
 last:l≤c.data.length
 parts:p+1≤c.tokens
 stk:st.length≤c.depth
structure Ok (c:PC):Prop where
 len:c.data.length≤100000
 dep:c.depth≤90000
 tok:c.tokens≤900000000
section
variable {c:PC} {P:List PS} {a l p:Nat} {sl:List Nat} {st:List PT} {ct cl:List Nat} {i:Nat} {q:PS} {t:PR} {n:Nat}
theorem qN (W:Wg c a l p st):(PR.mk0 a l p sl st ct cl).open_ c=PR.mk0 a l (p+1) sl (.nd 0 false [] []::st) ct cl:=by
 have h1: ¬c.depth<st.length:=Nat.not_lt.2 W.stk;have h2: ¬c.tokens≤p:=by have:=W.parts;omega
 show (fun s1:PR=>{s1 with parts:=p+1,stack:=.nd 0 false [] []::st}) (if c.depth<st.length then _ else if c.tokens≤p then _ else _)=_;rw [if_neg h1,if_neg h2];rfl
theorem wf0 (O:Ok c) (W:Wg c a l p st):Wf c (PR.mk0 a l p sl st ct cl)∧Wf c ((PR.mk0 a l p sl st ct cl).open_ c):=by
 have h1:=O.len;have h2:=O.dep;have h3:=O.tok;have h4:=W.parts;have h5:=W.stk
 refine ⟨⟨W.at_,W.last,?_,by omega,?_⟩,?_⟩
 ·show p≤_;omega
 ·show st.length≤_;omega
 ·rw [qN W]
  refine ⟨W.at_,W.last,?_,by omega,?_⟩
  ·show p+1≤_;omega
  ·show (st.length+1)≤_;omega
theorem go (O:Ok c) (W:Wg c a l p st) (eq:P[i]? =some q) (pre:acG c q (PR.mk0 a l p sl st ct cl)) {j:Nat} {s':PR} (es:(PR.mk0 a l p sl st ct cl).step c q i=(some j,s')) (r:bF c P j s' t n):bF c P i (PR.mk0 a l p sl st ct cl) t (n+1):=by
 obtain ⟨w1,w2⟩:=wf0 (sl:=sl) (ct:=ct) (cl:=cl) O W;exact .next rfl eq w1 w2 pre (j:=j) (by rw [es]) (by rw [es];exact r)
theorem qQ (O:Ok c) (W:Wg c a l p st) (eq:P[i]? =some q) (k:q.kind=1) (r:bF c P (i+1) (PR.mk0 a l (p+1) sl (.nd 0 false [] []::st) ct cl) t n):bF c P i (PR.mk0 a l p sl st ct cl) t (n+1):=
 go O W eq (.opn k) (by rw [PR.step,if_pos k,qN W]) r
theorem fT {u v:PT} {r:List PT} (O:Ok c) (W:Wg c a l p (u::v::r)) (eq:P[i]? =some q) (k:q.kind=2) (hv: ∀n b d ks,v= .nd n b d ks→ks.length≤90000∧d=[]) (r':bF c P (i+1) (PR.mk0 a l p sl (v.add u::r) ct cl) t n):bF c P i (PR.mk0 a l p sl (u::v::r) ct cl) t (n+1):=by
 have h1:=W.stk;have h2:=O.dep
 simp only [Br] at h1;exact go O W eq (.cls k u v r rfl (by omega) hv) (by rw [PR.step,if_neg (by omega),if_pos k];rfl) r'
theorem tS (O:Ok c) (W:Wg c a l p st) (eq:P[i]? =some q) (k:q.kind=11) {j:Nat} (hj:q.a=(j:Int)) (r:bF c P j (PR.mk0 a l p sl st ct cl) t n):bF c P i (PR.mk0 a l p sl st ct cl) t (n+1):=
 go O W eq (.jump k (by omega)) (by simp [PR.step,k,hj]) r
theorem afS (O:Ok c) (W:Wg c a l p st) (eq:P[i]? =some q) (k:q.kind=15) {j:Nat} (hj:q.a=(j:Int)) (hc:cl.length≤100000) (r:bF c P j (PR.mk0 a l p sl st ct ((i+1)::cl)) t n):bF c P i (PR.mk0 a l p sl st ct cl) t (n+1):=
 go O W eq (.call k (by omega) hc) (by simp [PR.step,k,hj,PR.mk0]) r
theorem acV {j:Nat} (O:Ok c) (W:Wg c a l p st) (eq:P[i]? =some q) (k:q.kind=16) (hc:(j::cl).length≤100000) (r:bF c P j (PR.mk0 a l p sl st ct cl) t n):bF c P i (PR.mk0 a l p sl st ct (j::cl)) t (n+1):=
 go O W eq (.ret k (by simp [PR.mk0]) hc) (by simp [PR.step,k,PR.mk0]) r
theorem avi (O:Ok c) (W:Wg c a l p st) (eq:P[i]? =some q) (k:q.kind=20):bF c P i (PR.mk0 a l p sl st ct cl) (PR.mk0 a l p sl st ct cl) 1:=by
 obtain ⟨w1,w2⟩:=wf0 (sl:=sl) (ct:=ct) (cl:=cl) O W
 have:(PR.mk0 a l p sl st ct cl).step c q i=(none,PR.mk0 a l p sl st ct cl):=by simp [PR.step,k]
 have:=bF.stop (c:=c) (P:=P) rfl eq w1 w2 (.fin k) (by rw [this])
 rwa [show ((PR.mk0 a l p sl st ct cl).step c q i).2=PR.mk0 a l p sl st ct cl by simp [PR.step,k]] at this
theorem gu {s:PR} (h:s.code=0) (e x:Nat):(s.cd e x).code=e:=by unfold PR.cd;rw [if_pos h]
theorem mQ (s:PR) (e x:Nat):(s.cd e x).at_=s.at_:=by unfold PR.cd;split<;>rfl
theorem zy (s:PR) (x:PT):(s.leaf x).at_=s.at_:=by unfold PR.leaf;split<;>rfl
theorem ah1 (s:PR) (x:PT):(s.leaf x).code=s.code:=by unfold PR.leaf;split<;>rfl
theorem aqR (s:PR) (q:PS) (n:Nat):(s.oB q n).at_=s.at_:=by
 have e1:(if s.code=0∧ ¬(q.mn≤n∧n≤q.mx) then s.cd 210 s.last else s).at_=s.at_:=by split<;>simp [mQ]
 unfold PR.oB
 generalize (if s.code=0∧ ¬(q.mn≤n∧n≤q.mx) then s.cd 210 s.last else s)=s1 at*
 rw [←e1]
 by_cases hb:0≤q.b
 ·simp only [if_pos hb]
  split
  ·rw [zy]
  ·rfl
 ·simp only [if_neg hb]
  split
  ·rw [zy]
  ·rfl
theorem abO (s:PR) (q:PS) (n:Nat) (h:s.code≠0∨ ¬(q.mn≤n∧n≤q.mx)):(s.oB q n).code≠0:=by
 unfold PR.oB;have e1:(if s.code=0∧ ¬(q.mn≤n∧n≤q.mx) then s.cd 210 s.last else s).code≠0:=by
  by_cases h0:s.code=0
  ·have h2: ¬(q.mn≤n∧n≤q.mx):=h.resolve_left (fun c=>c h0)
   rw [if_pos ⟨h0,h2⟩];rw [gu h0];decide
  ·rw [if_neg (fun c=>h0 c.1)];exact h0
 generalize (if s.code=0∧ ¬(q.mn≤n∧n≤q.mx) then s.cd 210 s.last else s)=s1 at*
 by_cases hb:0≤q.b
 ·simp only [if_pos hb]
  rw [if_neg e1];exact e1
 ·simp only [if_neg hb]
  rw [if_neg e1];exact e1
theorem aq6 (a l p:Nat) (sl:List Nat) (u v:PT) (r:List PT) (ct cl:List Nat) (q:PS) (n:Nat) (hb:0≤q.b) (h:q.mn≤n∧n≤q.mx):(PR.mk0 a l p sl (u::v::r) ct cl).oB q n=PR.mk0 a l p (sl.set q.b.toNat n) (v.add (.nd n false [] [])::r) ct cl:=by
 unfold PR.oB;have e1:(if (PR.mk0 a l p sl (u::v::r) ct cl).code=0∧ ¬(q.mn≤n∧n≤q.mx) then (PR.mk0 a l p sl (u::v::r) ct cl).cd 210 (PR.mk0 a l p sl (u::v::r) ct cl).last else PR.mk0 a l p sl (u::v::r) ct cl)=PR.mk0 a l p sl (u::v::r) ct cl:=if_neg fun c=>c.2 h
 simp only [e1,if_pos hb];rfl
theorem yJ (a l p:Nat) (sl:List Nat) (st:List PT) (ct cl:List Nat) {m:Nat} (O:Ok c) (ha:a≤c.data.length) (h:m≤c.data.length-a):(PR.mk0 a l p sl st ct cl).take c m a=((c.data.drop a).take m,PR.mk0 (a+m) l p sl st ct cl):=by
 have:=O.len
 unfold PR.take;rw [if_neg (by omega),if_neg (show ¬c.data.length-(PR.mk0 a l p sl st ct cl).at_<m from Nat.not_lt.2 h)];rfl
theorem aaG (a l p:Nat) (sl:List Nat) (st:List PT) (ct cl:List Nat) {m:Nat} (h:c.data.length-a<m):((PR.mk0 a l p sl st ct cl).take c m a).2.code≠0∧((PR.mk0 a l p sl st ct cl).take c m a).2.at_=a:=by
 unfold PR.take
 split
 ·exact ⟨by show (PR.cd _ _ _).code≠0;rw [gu rfl];decide,mQ _ _ _⟩
 ·rw [if_pos (show c.data.length-(PR.mk0 a l p sl st ct cl).at_<m from h)]
  exact ⟨by show (PR.cd _ _ _).code≠0;rw [gu rfl];decide,mQ _ _ _⟩
theorem vK {v:PT} {r:List PT} (O:Ok c) (W:Wg c a l p (v::r)) (eq:P[i]? =some q) (k:q.kind=3) {m:Nat} (hm:q.a=(m:Int)) (hm1:1≤m) (hm8:m≤8) (hb:0≤q.b) (hb2:q.b<(sl.length:Int)) (hv: ∀n b d ks,v= .nd n b d ks→ks.length≤90000∧d=[]) {x:Nat} (hl:a+m≤c.data.length) (hx:mU q.flag ((c.data.drop a).take m)=x) (hr:q.mn≤x∧x≤q.mx)
 (r':bF c P (i+1) (PR.mk0 (a+m) a (p+1) (sl.set q.b.toNat x) (v.add (.nd x false [] [])::r) ct cl) t n):bF c P i (PR.mk0 a l p sl (v::r) ct cl) t (n+1):=by
 have h1:=W.stk;have h2:=O.dep
 simp only [Br] at h1;refine go O W eq (.num (.inl ⟨k,by omega,by omega⟩) hb2 ⟨v,r,rfl,by omega,hv⟩) ?_ r';rw [PR.step,if_neg (by omega),if_neg (by omega),if_pos (.inl k),PR.number,qN W];have k0: ¬(PR.mk0 a l (p+1) sl (.nd 0 false [] []::v::r) ct cl).code≠0:=fun c=>c rfl
 have e0:q.a.toNat=m:=by omega
 simp only [if_neg k0,if_pos k,e0];show (some (i+1),((PR.mk0 a a (p+1) sl (.nd 0 false [] []::v::r) ct cl).take c m a).2.oB q (mU q.flag ((PR.mk0 a a (p+1) sl (.nd 0 false [] []::v::r) ct cl).take c m a).1))=_;rw [yJ _ _ _ _ _ _ _ O W.at_ (by omega)];show (some (i+1),(PR.mk0 (a+m) a (p+1) sl (.nd 0 false [] []::v::r) ct cl).oB q (mU q.flag ((c.data.drop a).take m)))=_;rw [hx,aq6 _ _ _ _ _ _ _ _ _ _ _ hb hr]
theorem pj {v:PT} {r:List PT} (O:Ok c) (W:Wg c a l p (v::r)) (eq:P[i]? =some q) (k:q.kind=3) {m:Nat} (hm:q.a=(m:Int)) (hm1:1≤m) (hm8:m≤8) (hb2:q.b<(sl.length:Int)) (hv: ∀n b d ks,v= .nd n b d ks→ks.length≤90000∧d=[]) (hx:c.data.length<a+m∨ ¬(q.mn≤mU q.flag ((c.data.drop a).take m)∧mU q.flag ((c.data.drop a).take m)≤q.mx)):
 ∃t,bF c P i (PR.mk0 a l p sl (v::r) ct cl) t 1∧t.code≠0∧t.at_≤c.data.length:=by
 have h1:=W.stk;have h2:=O.dep
 simp only [Br] at h1;have k0: ¬(PR.mk0 a l (p+1) sl (.nd 0 false [] []::v::r) ct cl).code≠0:=fun c=>c rfl
 have e0:q.a.toNat=m:=by omega
 obtain ⟨X,hX⟩: ∃X,X=(PR.mk0 a a (p+1) sl (.nd 0 false [] []::v::r) ct cl).take c m a:=⟨_,rfl⟩;have hb:(X.2.oB q (mU q.flag X.1)).code≠0∧X.2.at_≤c.data.length:=by
  by_cases hl:c.data.length<a+m
  ·have:=aaG (c:=c) a a (p+1) sl (.nd 0 false [] []::v::r) ct cl (m:=m) (by have:=W.at_;omega)
   rw [←hX] at this;exact ⟨abO _ _ _ (.inl this.1),by rw [this.2];exact W.at_⟩
  ·rw [yJ _ _ _ _ _ _ _ O W.at_ (by omega)] at hX
   subst hX;exact ⟨abO _ _ _ (.inr (hx.resolve_left hl)),by show a+m≤_;omega⟩
 refine ⟨X.2.oB q (mU q.flag X.1),go O W eq (.num (.inl ⟨k,by omega,by omega⟩) hb2 ⟨v,r,rfl,by omega,hv⟩) (j:=i+1) ?_ (.bad _ _ hb.1),hb.1,?_⟩
 ·rw [PR.step,if_neg (by omega),if_neg (by omega),if_pos (.inl k),PR.number,qN W]
  simp only [if_neg k0,if_pos k,e0];rw [hX];rfl
 ·rw [aqR];exact hb.2
theorem agy {v:PT} {r:List PT} (O:Ok c) (W:Wg c a l p (v::r)) (eq:P[i]? =some q) (k:q.kind=6) (hq:adp q (PR.mk0 a l p sl (v::r) ct cl)) {m:Nat} (hm:(if q.a<0 then q.add else sl.getD q.a.toNat 0)=m) (hl:a+m≤c.data.length) (hv: ∀n b d ks,v= .nd n b d ks→ks.length≤90000∧d=[])
 (r':bF c P (i+1) (PR.mk0 (a+m) l (p+1) sl (v.add (.nd 0 false ((c.data.drop a).take m) [])::r) ct cl) t n):bF c P i (PR.mk0 a l p sl (v::r) ct cl) t (n+1):=by
 have h1:=W.stk;have h2:=O.dep
 simp only [Br] at h1;refine go O W eq (.wo k hq ⟨v,r,rfl,by omega,hv⟩) ?_ r';rw [PR.step,if_neg (by omega),if_neg (by omega),if_neg (by omega),if_pos k,PR.wo,qN W];have k0: ¬(PR.mk0 a l (p+1) sl (.nd 0 false [] []::v::r) ct cl).code≠0:=fun c=>c rfl
 have e0:(PR.mk0 a l (p+1) sl (.nd 0 false [] []::v::r) ct cl).many q=m:=hm;simp only [if_neg k0,e0];show (some (i+1),((PR.mk0 a l (p+1) sl (.nd 0 false [] []::v::r) ct cl).take c m a).2.leaf (.nd 0 false ((PR.mk0 a l (p+1) sl (.nd 0 false [] []::v::r) ct cl).take c m a).1 []))=_;rw [yJ _ _ _ _ _ _ _ O W.at_ (by omega)];rfl
theorem sV {v:PT} {r:List PT} (O:Ok c) (W:Wg c a l p (v::r)) (eq:P[i]? =some q) (k:q.kind=6) (hq:adp q (PR.mk0 a l p sl (v::r) ct cl)) {m:Nat} (hm:(if q.a<0 then q.add else sl.getD q.a.toNat 0)=m) (hl:c.data.length<a+m) (hv: ∀n b d ks,v= .nd n b d ks→ks.length≤90000∧d=[]):
 ∃t,bF c P i (PR.mk0 a l p sl (v::r) ct cl) t 1∧t.code≠0∧t.at_≤c.data.length:=by
 have h1:=W.stk;have h2:=O.dep
 simp only [Br] at h1;have k0: ¬(PR.mk0 a l (p+1) sl (.nd 0 false [] []::v::r) ct cl).code≠0:=fun c=>c rfl
 have e0:(PR.mk0 a l (p+1) sl (.nd 0 false [] []::v::r) ct cl).many q=m:=hm;obtain ⟨b1,b2⟩:=aaG (c:=c) a l (p+1) sl (.nd 0 false [] []::v::r) ct cl (m:=m) (by have:=W.at_;omega);obtain ⟨X,hX⟩: ∃X,X=(PR.mk0 a l (p+1) sl (.nd 0 false [] []::v::r) ct cl).take c m a:=⟨_,rfl⟩;rw [←hX] at b1 b2;have hb:(X.2.leaf (.nd 0 false X.1 [])).code≠0:=by rw [ah1];exact b1
 refine ⟨X.2.leaf (.nd 0 false X.1 []),go O W eq (.wo k hq ⟨v,r,rfl,by omega,hv⟩) (j:=i+1) ?_ (.bad _ _ hb),hb,by rw [zy,b2];exact W.at_⟩
 rw [PR.step,if_neg (by omega),if_neg (by omega),if_neg (by omega),if_pos k,PR.wo,qN W];simp only [if_neg k0,e0];rw [hX];rfl
end
def stp (kind:Nat) (a b:Int) (flag:Bool) (mn mx mul add:Nat) (ways:List (Nat×Nat)):PS:=⟨kind,a,b,flag,mn,mx,mul,add,ways,[]⟩
def lf (n:Nat):PT:=.nd n false [] []
theorem ae3: ∀(l:List Nat) (acc:Nat),(∀b∈l,b<256)→l.foldl (fun n c=>n*256+c) acc<(acc+1)*256^l.length
 |[],acc,_=>by simp
 |c::r,acc,h=>by
  have hc:c<256:=h c (BB ..);have ih:=ae3 r (acc*256+c) fun b hb=>h b (Bh _ hb)
  rw [List.foldl_cons,Br,Nat.pow_succ];refine Bm ih ?_;rw [Db (256^r.length),←Nat.mul_assoc];exact BQ _ (by omega)
theorem abJ {l:List Nat} (h: ∀b∈l,b<256) (f:Bool):mU f l<256^l.length:=by
 have:=ae3 (if f then l.reverse else l) 0 (by cases f<;>simpa using h)
 unfold mU beN
 cases f<;>simpa using this
section
variable {c:PC} {a l p:Nat} {sl:List Nat} {ks:List PT} {R:List PT} {ct cl:List Nat}
theorem vL {sl:List Nat} {x i:Nat} (h: ∀y∈sl,y<18446744073709551616) (hx:x<18446744073709551616): ∀y∈sl.set i x,y<18446744073709551616:=fun y hy=>by
 rcases CT hy with hy|rfl
 ·exact h y hy
 ·exact hx
end
section
variable {c:PC} {P:List PS} {a l p:Nat} {sl:List Nat} {st:List PT} {ct cl:List Nat} {i:Nat} {q:PS} {t:PR} {n:Nat}
theorem aoY (O:Ok c) (W:Wg c a l p st) (eq:P[i]? =some q) (k:q.kind=9) (hq:adp q (PR.mk0 a l p sl st ct cl)) (hl:ct.length≤100000) {m:Nat} (hm:(if q.a<0 then q.add else sl.getD q.a.toNat 0)=m) (r:bF c P (i+1) (PR.mk0 a l (p+1) sl (.nd 0 false [] []::st) (m::ct) cl) t n):bF c P i (PR.mk0 a l p sl st ct cl) t (n+1):=by
 refine go O W eq (.count k hq hl) ?_ r;rw [PR.step,if_neg (by omega),if_neg (by omega),if_neg (by omega),if_neg (by omega),if_pos k,qN W,show (PR.mk0 a l p sl st ct cl).many q=m from hm];rfl
theorem abn (O:Ok c) (W:Wg c a l p st) (eq:P[i]? =some q) (k:q.kind=10) {j:Nat} (hj:q.a=(j:Int)) (hl:(0::ct).length≤100000) (hn: ∀n∈ct,n<18446744073709551616) (r:bF c P j (PR.mk0 a l p sl st ct cl) t n):bF c P i (PR.mk0 a l p sl st (0::ct) cl) t (n+1):=
 go O W eq (.next k (by omega) (by simp [PR.mk0]) hl (fun x hx=>by
  rcases Bv.1 hx with rfl|hx
  ·decide
  ·exact hn x hx)) (by simp [PR.step,k,hj,PR.mk0]) r
theorem aq8 {m:Nat} (O:Ok c) (W:Wg c a l p st) (eq:P[i]? =some q) (k:q.kind=10) (hj:0≤q.a) (hl:(m::ct).length≤100000) (hn: ∀n∈(m+1)::ct,n<18446744073709551616) (r:bF c P (i+1) (PR.mk0 a l p sl st (m::ct) cl) t n):bF c P i (PR.mk0 a l p sl st ((m+1)::ct) cl) t (n+1):=
 go O W eq (.next k hj (by simp [PR.mk0]) hl hn) (by simp [PR.step,k,PR.mk0]) r
theorem sw {b w:Nat} {way:Nat×Nat} (O:Ok c) (W:Wg c a l p st) (eq:P[i]? =some q) (k:q.kind=14) (h8: ∀x∈q.bytes,x<256) (hk: ∀x∈q.bytes,x≤q.ways.length) (hl:q.ways.length≤1000) (hb:c.data[a]? =some b) (hw:q.bytes.getD b 0=w+1) (hway:q.ways.getD w (0,0)=way) (r:bF c P way.2 (PR.mk0 a l (p+1) sl (.nd w false [] []::st) ct cl) t n):bF c P i (PR.mk0 a l p sl st ct cl) t (n+1):=by
 refine go O W eq (.choice k h8 hk hl) ?_ r;have e:(PR.mk0 a l p sl st ct cl).choose c q=(way.2,PR.mk0 a l (p+1) sl (.nd w false [] []::st) ct cl):=by
  have hby:(PR.mk0 a l (p+1) sl (.nd 0 false [] []::st) ct cl).byte c=(b,PR.mk0 (a+1) l (p+1) sl (.nd 0 false [] []::st) ct cl):=by
   unfold PR.byte;rw [show (PR.mk0 a l (p+1) sl (.nd 0 false [] []::st) ct cl).at_=a from rfl,hb];rfl
  unfold PR.choose;rw [qN W];show (if (PR.mk0 a l (p+1) sl (.nd 0 false [] []::st) ct cl).code≠0 then _ else _)=_;rw [if_neg (show ¬(PR.mk0 a l (p+1) sl (.nd 0 false [] []::st) ct cl).code≠0 from fun c=>c rfl),hby,if_neg (show ¬(PR.mk0 (a+1) l (p+1) sl (.nd 0 false [] []::st) ct cl).code≠0 from fun c=>c rfl)];show (fun k:Nat=>if k=0 then _ else _) (q.bytes.getD b 0)=_;rw [hw];show (if w+1=0 then _ else ((q.ways.getD (w+1-1) (0,0)).2,_))=_;rw [if_neg (by omega),C5,hway];rfl
 simp [PR.step,k,e]
theorem oL (O:Ok c) (W:Wg c a l p st) (eq:P[i]? =some q) (k:q.kind=14) (h8: ∀x∈q.bytes,x<256) (hk: ∀x∈q.bytes,x≤q.ways.length) (hl:q.ways.length≤1000) (hb:c.data[a]? =none∨ ∃b,c.data[a]? =some b∧q.bytes.getD b 0=0):
 ∃t,bF c P i (PR.mk0 a l p sl st ct cl) t 1∧t.code≠0∧t.at_≤c.data.length:=by
 have key: ∃j s,(PR.mk0 a l p sl st ct cl).choose c q=(j,s)∧s.code≠0∧s.at_≤c.data.length:=by
  unfold PR.choose;rw [qN W];show ∃j s,(if (PR.mk0 a l (p+1) sl (.nd 0 false [] []::st) ct cl).code≠0 then _ else _)=(j,s)∧_;rw [if_neg (show ¬(PR.mk0 a l (p+1) sl (.nd 0 false [] []::st) ct cl).code≠0 from fun c=>c rfl)];rcases hb with hb|⟨b,hb,hw⟩
  ·have hby:(PR.mk0 a l (p+1) sl (.nd 0 false [] []::st) ct cl).byte c=(0,(PR.mk0 a l (p+1) sl (.nd 0 false [] []::st) ct cl).cd 10 c.data.length):=by
    unfold PR.byte;rw [show (PR.mk0 a l (p+1) sl (.nd 0 false [] []::st) ct cl).at_=a from rfl,hb]
   have hc:((PR.mk0 a l (p+1) sl (.nd 0 false [] []::st) ct cl).cd 10 c.data.length).code≠0:=by rw [gu rfl];decide
   rw [hby,if_pos hc];exact ⟨_,_,rfl,hc,by rw [mQ];exact W.at_⟩
  ·have hby:(PR.mk0 a l (p+1) sl (.nd 0 false [] []::st) ct cl).byte c=(b,PR.mk0 (a+1) l (p+1) sl (.nd 0 false [] []::st) ct cl):=by
    unfold PR.byte;rw [show (PR.mk0 a l (p+1) sl (.nd 0 false [] []::st) ct cl).at_=a from rfl,hb];rfl
   rw [hby,if_neg (show ¬(PR.mk0 (a+1) l (p+1) sl (.nd 0 false [] []::st) ct cl).code≠0 from fun c=>c rfl)];show ∃j s,(fun k:Nat=>if k=0 then _ else _) (q.bytes.getD b 0)=(j,s)∧_;rw [hw];exact ⟨_,_,rfl,by show ((PR.mk0 a l (p+1) sl (.nd 0 false [] []::st) ct cl).cd 212 _).code≠0;rw [gu rfl];decide,by show ((PR.mk0 a l (p+1) sl (.nd 0 false [] []::st) ct cl).cd 212 _).at_≤_;rw [mQ];exact W.at_⟩
 obtain ⟨j,s,e,e1,e2⟩:=key;exact ⟨s,go O W eq (.choice k h8 hk hl) (j:=j) (by simp [PR.step,k,e]) (.bad _ _ e1),e1,e2⟩
end
structure kQ where
 labels:List (List Nat)
 ptr:Int
def chB:List Nat:=(List.range 256).map fun c=>if c=0 then 2 else if c<64 then 1 else if c<192 then 0 else 3
def DP:List PS:=[
 ⟨1,0,0,false,0,0,0,0,[],[]⟩,
 ⟨3,2,0,false,0,65535,0,0,[],[]⟩,
 ⟨3,2,1,false,0,65535,0,0,[],[]⟩,
 ⟨3,2,2,false,0,65535,0,0,[],[]⟩,
 ⟨3,2,3,false,0,65535,0,0,[],[]⟩,
 ⟨3,2,4,false,0,65535,0,0,[],[]⟩,
 ⟨3,2,5,false,0,65535,0,0,[],[]⟩,
 ⟨9,2,0,false,0,0,1,0,[],[]⟩,
 ⟨10,11,0,false,0,0,0,0,[],[]⟩,
 ⟨15,45,0,false,0,0,0,0,[],[]⟩,
 ⟨11,8,0,false,0,0,0,0,[],[]⟩,
 ⟨2,0,0,false,0,0,0,0,[],[]⟩,
 ⟨9,3,0,false,0,0,1,0,[],[]⟩,
 ⟨10,16,0,false,0,0,0,0,[],[]⟩,
 ⟨15,51,0,false,0,0,0,0,[],[]⟩,
 ⟨11,13,0,false,0,0,0,0,[],[]⟩,
 ⟨2,0,0,false,0,0,0,0,[],[]⟩,
 ⟨9,4,0,false,0,0,1,0,[],[]⟩,
 ⟨10,21,0,false,0,0,0,0,[],[]⟩,
 ⟨15,51,0,false,0,0,0,0,[],[]⟩,
 ⟨11,18,0,false,0,0,0,0,[],[]⟩,
 ⟨2,0,0,false,0,0,0,0,[],[]⟩,
 ⟨9,5,0,false,0,0,1,0,[],[]⟩,
 ⟨10,26,0,false,0,0,0,0,[],[]⟩,
 ⟨15,51,0,false,0,0,0,0,[],[]⟩,
 ⟨11,23,0,false,0,0,0,0,[],[]⟩,
 ⟨2,0,0,false,0,0,0,0,[],[]⟩,
 ⟨2,0,0,false,0,0,0,0,[],[]⟩,
 ⟨20,0,0,false,0,0,0,0,[],[]⟩,
 ⟨1,0,0,false,0,0,0,0,[],[]⟩,
 ⟨14,0,0,false,0,0,0,0,[(0,31),(1,37),(2,40)],chB⟩,
 ⟨1,0,0,false,0,0,0,0,[],[]⟩,
 ⟨3,1,6,false,1,63,0,0,[],[]⟩,
 ⟨6,6,0,false,0,0,1,0,[],[]⟩,
 ⟨2,0,0,false,0,0,0,0,[],[]⟩,
 ⟨2,0,0,false,0,0,0,0,[],[]⟩,
 ⟨11,30,0,false,0,0,0,0,[],[]⟩,
 ⟨3,1,7,false,0,0,0,0,[],[]⟩,
 ⟨2,0,0,false,0,0,0,0,[],[]⟩,
 ⟨11,43,0,false,0,0,0,0,[],[]⟩,
 ⟨3,2,8,false,49152,65535,0,0,[],[]⟩,
 ⟨2,0,0,false,0,0,0,0,[],[]⟩,
 ⟨11,43,0,false,0,0,0,0,[],[]⟩,
 ⟨2,0,0,false,0,0,0,0,[],[]⟩,
 ⟨16,0,0,false,0,0,0,0,[],[]⟩,
 ⟨1,0,0,false,0,0,0,0,[],[]⟩,
 ⟨15,29,0,false,0,0,0,0,[],[]⟩,
 ⟨3,2,9,false,0,65535,0,0,[],[]⟩,
 ⟨3,2,10,false,0,65535,0,0,[],[]⟩,
 ⟨2,0,0,false,0,0,0,0,[],[]⟩,
 ⟨16,0,0,false,0,0,0,0,[],[]⟩,
 ⟨1,0,0,false,0,0,0,0,[],[]⟩,
 ⟨15,29,0,false,0,0,0,0,[],[]⟩,
 ⟨3,2,11,false,0,65535,0,0,[],[]⟩,
 ⟨3,2,12,false,0,65535,0,0,[],[]⟩,
 ⟨3,4,13,false,0,4294967295,0,0,[],[]⟩,
 ⟨3,2,14,false,0,65535,0,0,[],[]⟩,
 ⟨6,14,0,false,0,0,1,0,[],[]⟩,
 ⟨2,0,0,false,0,0,0,0,[],[]⟩,
 ⟨16,0,0,false,0,0,0,0,[],[]⟩]
def eJ:Nat→List Nat→Option (kQ×List Nat)
 |0,_=>none
 |_+1,[]=>none
 |k+1,c::r=>if c=0 then some (⟨[], -1⟩,r) else if 192≤c then (match r with
   |[]=>none
   |d::r=>some (⟨[],(((c-192)*256+d:Nat):Int)⟩,r)) else if 63<c∨r.length<c then none else match eJ k (r.drop c) with
   |none=>none
   |some (x,r')=>some (⟨r.take c::x.labels,x.ptr⟩,r')
def adW (l:List Nat):PT:=.nd 0 false [] [.nd 0 false [] [lf l.length,.nd 0 false l []]]
def aic (p:Int):PT:=if p<0 then .nd 1 false [] [lf 0] else .nd 2 false [] [lf (49152+p.toNat)]
def mc (x:kQ):List PT:=x.labels.map adW++[aic x.ptr]
def fU (x:kQ):PT:=.nd 0 false [] (mc x)
structure SlO (sl sl':List Nat):Prop where
 len:sl'.length=15
 small: ∀x∈sl',x<18446744073709551616
 old: ∀i,i<6→sl'[i]? =sl[i]?
section
variable {c:PC} {a l p:Nat} {sl sl':List Nat} {ks:List PT} {R:List PT} {ct cl:List Nat}
theorem SlO.rfl (h:sl.length=15) (hs: ∀x∈sl,x<18446744073709551616):SlO sl sl:=⟨h,hs,fun _ _=>by rfl⟩
theorem SlO.set (o:SlO sl sl') {i x:Nat} (hi:6≤i) (hx:x<18446744073709551616):SlO sl (sl'.set i x):=⟨by rw [Bb];exact o.len,vL o.small hx,fun j hj=>by rw [List.getElem?_set_ne (by omega)];exact o.old j hj⟩
theorem SlO.trans {s2:List Nat} (a:SlO sl sl') (b:SlO sl' s2):SlO sl s2:=⟨b.len,b.small,fun i hi=>(b.old i hi).trans (a.old i hi)⟩
theorem asA {b:Nat} (h:b<256):chB.getD b 0=if b=0 then 2 else if b<64 then 1 else if b<192 then 0 else 3:=by
 unfold chB;rw [Bf,Bn,Cy h];rfl
theorem aeW: ∀x∈chB,x<256∧x≤3:=by
 intro x hx;obtain ⟨b,_,rfl⟩:=Cg.1 hx
 split
 ·omega
 ·split
  ·omega
  ·split<;>omega
theorem dG {x:Nat} {ks:List PT} (h:ks.length≤90000): ∀n b d ks',PT.nd x false [] ks= .nd n b d ks'→ks'.length≤90000∧d=[]:=fun n b d ks' e=>by cases e;exact ⟨h,rfl⟩
theorem as7 {L:List Nat} {a b:Nat} (h:L[a]? =some b):(L.drop a).take 1=[b]∧L.drop a=b::L.drop (a+1):=by
 have hlt:=(Bc.1 h).1;have e:L.drop a=b::L.drop (a+1):=by rw [CR hlt,(Bc.1 h).2]
 rw [e];exact ⟨rfl,rfl⟩
theorem asS (O:Ok c) (hb: ∀b∈c.data,b<256) {tk:List PT} {tn:Nat} {j:Nat} (hT:tk.length≤80000) (hdep:R.length+10≤c.depth) (hcl:cl.length≤80000): ∀(k a l p:Nat) (sl:List Nat) (ks:List PT),c.data.length-a<k→a≤c.data.length→l≤c.data.length→p+8*(c.data.length-a)+20≤c.tokens→sl.length=15→(∀x∈sl,x<18446744073709551616)→ks.length+(c.data.length-a)≤80000→
 match eJ k (c.data.drop a) with
 |none=>∃t n,n≤7*(c.data.length-a)+7∧bF c DP 30 (PR.mk0 a l p sl (.nd 0 false [] ks:: .nd tn false [] tk::R) ct (j::cl)) t n∧t.code≠0∧t.at_≤c.data.length
 |some (x,r)=>∃m l' p' n sl',r=c.data.drop (a+m)∧1≤m∧a+m≤c.data.length∧l'≤c.data.length∧p'≤p+8*m∧n≤7*m∧SlO sl sl'∧
  ∀t n',bF c DP j (PR.mk0 (a+m) l' p' sl' (.nd tn false [] (tk++[.nd 0 false [] (ks++mc x)])::R) ct cl) t n'→bF c DP 30 (PR.mk0 a l p sl (.nd 0 false [] ks:: .nd tn false [] tk::R) ct (j::cl)) t (n'+n):=by
 have w: ∀(a l p:Nat) (st:List PT),a≤c.data.length→l≤c.data.length→p+1≤c.tokens→st.length≤c.depth→Wg c a l p st:=fun _ _ _ _ a b c d=>⟨a,b,c,d⟩
 have g30:DP[30]? =some ⟨14,0,0,false,0,0,0,0,[(0,31),(1,37),(2,40)],chB⟩:=rfl;have h8: ∀x∈(⟨14,0,0,false,0,0,0,0,[(0,31),(1,37),(2,40)],chB⟩:PS).bytes,x<256:=fun x hx=>(aeW x hx).1
 have hk3: ∀x∈(⟨14,0,0,false,0,0,0,0,[(0,31),(1,37),(2,40)],chB⟩:PS).bytes,x≤(⟨14,0,0,false,0,0,0,0,[(0,31),(1,37),(2,40)],chB⟩:PS).ways.length:=fun x hx=>(aeW x hx).2
 intro k
 induction k with
 |zero=>intro a l p sl ks hk;omega
 |succ k ih=>
  intro a l p sl ks hk h1 h2 h3 h5 h6 h7;have W30:Wg c a l p (.nd 0 false [] ks:: .nd tn false [] tk::R):=w _ _ _ _ h1 h2 (by omega) (by simp;omega)
  cases hD:c.data[a]? with
  |none=>
   have hge:=CU.1 hD;have hd:c.data.drop a=[]:=Cs.2 hge;rw [hd];obtain ⟨t,r,b1,b2⟩:=oL (sl:=sl) (ct:=ct) (cl:=j::cl) O W30 g30 rfl h8 hk3 (by decide) (.inl hD);exact ⟨t,1,by omega,r,b1,b2⟩
  |some b=>
   have hlt:=(Bc.1 hD).1;obtain ⟨tk1,hd⟩:=as7 hD;have hb256:=hb b (Bg hD);have cb:=asA hb256;have n1:mU false ((c.data.drop a).take 1)=b:=by rw [tk1];show 0*256+b=b;omega
   rw [hd];unfold eJ
   -- the end of a name
   have fin: ∀{a' l' p':Nat} {sl':List Nat} {y:PT} {t:PR} {n:Nat},a'≤c.data.length→l'≤c.data.length→p'+1≤c.tokens→bF c DP j (PR.mk0 a' l' p' sl' (.nd tn false [] (tk++[.nd 0 false [] (ks++[y])])::R) ct cl) t n→bF c DP 43 (PR.mk0 a' l' p' sl' (.nd 0 false [] (ks++[y]):: .nd tn false [] tk::R) ct (j::cl)) t (n+2):=fun ha hl hp r=>
    fT O (w _ _ _ _ ha hl hp (by simp;omega)) (q:=⟨2,0,0,false,0,0,0,0,[],[]⟩) rfl rfl (dG (by omega)) (acV (q:=⟨16,0,0,false,0,0,0,0,[],[]⟩) O (w _ _ _ _ ha hl hp (by simp;omega)) rfl rfl (by simp;omega) r)
   by_cases c0:b=0
   ·subst c0
    rw [if_pos rfl];refine ⟨1,a,p+2,6,sl.set 7 0,rfl,A9 _,hlt,h1,by omega,by omega,(SlO.rfl h5 h6).set (by decide) (by decide),fun t n' r=>?_⟩;refine sw (b:=0) (w:=1) (way:=(1,37)) O W30 g30 rfl h8 hk3 (by decide) hD (by rw [show (⟨14,0,0,false,0,0,0,0,[(0,31),(1,37),(2,40)],chB⟩:PS).bytes=chB from rfl,cb];rfl) rfl ?_;refine vK (m:=1) (x:=0) (q:=⟨3,1,7,false,0,0,0,0,[],[]⟩) O (w _ _ _ _ h1 h2 (by omega) (by simp;omega)) rfl rfl rfl (by decide) (by decide) (by decide) (by rw [h5];decide) (dG (by simp)) hlt n1 ⟨A9 _,A9 _⟩ ?_;refine fT (q:=⟨2,0,0,false,0,0,0,0,[],[]⟩) O (w _ _ _ _ hlt h1 (by omega) (by simp;omega)) rfl rfl (dG (by omega)) ?_;refine tS (q:=⟨11,43,0,false,0,0,0,0,[],[]⟩) O (w _ _ _ _ hlt h1 (by omega) (by simp;omega)) rfl rfl (j:=43) rfl ?_;exact fin hlt h1 (by omega) r
   rw [if_neg c0];rw [if_neg c0] at cb
   by_cases c3:192≤b
   ·rw [if_pos c3]
    rw [if_neg (by omega),if_neg (by omega)] at cb;have beg: ∀{t n},bF c DP 40 (PR.mk0 a l (p+1) sl (.nd 2 false [] []:: .nd 0 false [] ks:: .nd tn false [] tk::R) ct (j::cl)) t n→bF c DP 30 (PR.mk0 a l p sl (.nd 0 false [] ks:: .nd tn false [] tk::R) ct (j::cl)) t (n+1):=fun r=>sw (b:=b) (w:=2) (way:=(2,40)) O W30 g30 rfl h8 hk3 (by decide) hD (by rw [show (⟨14,0,0,false,0,0,0,0,[(0,31),(1,37),(2,40)],chB⟩:PS).bytes=chB from rfl,cb]) rfl r
    have W40:Wg c a l (p+1) (.nd 2 false [] []:: .nd 0 false [] ks:: .nd tn false [] tk::R):=w _ _ _ _ h1 h2 (by omega) (by simp;omega)
    have g40:DP[40]? =some ⟨3,2,8,false,49152,65535,0,0,[],[]⟩:=rfl
    cases hE:c.data[a+1]? with
    |none=>
     have hge:=CU.1 hE;rw [Cs.2 hge];obtain ⟨t,r,b1,b2⟩:=pj (sl:=sl) (ct:=ct) (cl:=j::cl) (m:=2) O W40 g40 rfl rfl (by decide) (by decide) (by rw [h5];decide) (dG (by simp)) (.inl (by omega));exact ⟨t,2,by omega,beg r,b1,b2⟩
    |some d=>
     have hlt2:=(Bc.1 hE).1;obtain ⟨_,hd2⟩:=as7 hE;have hd256:=hb d (Bg hE);have n2:mU false ((c.data.drop a).take 2)=b*256+d:=by rw [hd,hd2];show (0*256+b)*256+d=b*256+d;omega
     rw [hd2];refine ⟨2,a,p+2,6,sl.set 8 (b*256+d),rfl,by decide,hlt2,h1,by omega,by omega,(SlO.rfl h5 h6).set (by decide) (by omega),fun t n' r=>?_⟩;refine beg (vK (m:=2) O W40 g40 rfl rfl (by decide) (by decide) (by decide) (by rw [h5];decide) (dG (by simp)) hlt2 n2 ⟨by show 49152≤_;omega,by show _≤65535;omega⟩ ?_);refine fT (q:=⟨2,0,0,false,0,0,0,0,[],[]⟩) O (w _ _ _ _ hlt2 h1 (by omega) (by simp;omega)) rfl rfl (dG (by omega)) ?_;refine tS (q:=⟨11,43,0,false,0,0,0,0,[],[]⟩) O (w _ _ _ _ hlt2 h1 (by omega) (by simp;omega)) rfl rfl (j:=43) rfl ?_;refine fin hlt2 h1 (by omega) ?_;have e:mc ⟨[],(((b-192)*256+d:Nat):Int)⟩=[.nd 2 false [] [lf (b*256+d)]]:=by
      show []++[aic _]=_;unfold aic;rw [if_neg (by show ¬(((b-192)*256+d:Nat):Int)<0;omega),show (((b-192)*256+d:Nat):Int).toNat=(b-192)*256+d from rfl,show 49152+((b-192)*256+d)=b*256+d by omega];rfl
     rw [e] at r;exact r
   rw [if_neg c3]
   by_cases c1:63<b
   ·rw [if_pos (.inl c1)]
    rw [if_neg (by omega),if_pos (by omega)] at cb;obtain ⟨t,r,b1,b2⟩:=oL (sl:=sl) (ct:=ct) (cl:=j::cl) O W30 g30 rfl h8 hk3 (by decide) (.inr ⟨b,hD,cb⟩);exact ⟨t,1,by omega,r,b1,b2⟩
   rw [if_pos (by omega)] at cb;have dl:(c.data.drop (a+1)).length=c.data.length-(a+1):=by simp
   -- a label
   have beg: ∀{t n},bF c DP 33 (PR.mk0 (a+1) a (p+3) (sl.set 6 b) (.nd 0 false [] [lf b]:: .nd 0 false [] []:: .nd 0 false [] ks:: .nd tn false [] tk::R) ct (j::cl)) t n→bF c DP 30 (PR.mk0 a l p sl (.nd 0 false [] ks:: .nd tn false [] tk::R) ct (j::cl)) t (n+3):=fun r=>
    sw (b:=b) (w:=0) (way:=(0,31)) O W30 g30 rfl h8 hk3 (by decide) hD (by rw [show (⟨14,0,0,false,0,0,0,0,[(0,31),(1,37),(2,40)],chB⟩:PS).bytes=chB from rfl,cb]) rfl
     (qQ (q:=⟨1,0,0,false,0,0,0,0,[],[]⟩) O (w _ _ _ _ h1 h2 (by omega) (by simp;omega)) rfl rfl
      (vK (m:=1) (x:=b) (q:=⟨3,1,6,false,1,63,0,0,[],[]⟩) O (w _ _ _ _ h1 h2 (by omega) (by simp;omega)) rfl rfl rfl (by decide) (by decide) (by decide) (by rw [h5];decide) (dG (by simp)) hlt n1 ⟨by show 1≤b;omega,by show b≤63;omega⟩ r))
   have o6:=(SlO.rfl h5 h6).set (i:=6) (x:=b) (by decide) (by omega);have W33:Wg c (a+1) a (p+3) (.nd 0 false [] [lf b]:: .nd 0 false [] []:: .nd 0 false [] ks:: .nd tn false [] tk::R):=w _ _ _ _ hlt h1 (by omega) (by simp;omega);have g33:DP[33]? =some ⟨6,6,0,false,0,0,1,0,[],[]⟩:=rfl;have pm:adp ⟨6,6,0,false,0,0,1,0,[],[]⟩ (PR.mk0 (a+1) a (p+3) (sl.set 6 b) (.nd 0 false [] [lf b]:: .nd 0 false [] []:: .nd 0 false [] ks:: .nd tn false [] tk::R) ct (j::cl)):=.inr ⟨by show (6:Int)<((sl.set 6 b).length:Int);rw [o6.len];decide,rfl,rfl,o6.small⟩;have mn:(if (⟨6,6,0,false,0,0,1,0,[],[]⟩:PS).a<0 then (⟨6,6,0,false,0,0,1,0,[],[]⟩:PS).add else (sl.set 6 b).getD (⟨6,6,0,false,0,0,1,0,[],[]⟩:PS).a.toNat 0)=b:=by
    show (sl.set 6 b).getD 6 0=b;rw [Bf,CO (by omega)];rfl
   by_cases hl:(c.data.drop (a+1)).length<b
   ·rw [if_pos (.inr hl)]
    obtain ⟨t,r,b1,b2⟩:=sV (ct:=ct) (cl:=j::cl) O W33 g33 rfl pm mn (by omega) (dG (by simp));exact ⟨t,4,by omega,beg r,b1,b2⟩
   rw [if_neg (by omega)];have go1: ∀{t n},bF c DP 30 (PR.mk0 (a+1+b) a (p+4) (sl.set 6 b) (.nd 0 false [] (ks++[adW ((c.data.drop (a+1)).take b)]):: .nd tn false [] tk::R) ct (j::cl)) t n→bF c DP 30 (PR.mk0 a l p sl (.nd 0 false [] ks:: .nd tn false [] tk::R) ct (j::cl)) t (n+7):=fun {t n} r=>by
    refine beg (agy (ct:=ct) (cl:=j::cl) O W33 g33 rfl pm mn (by omega) (dG (by simp)) ?_);refine fT (q:=⟨2,0,0,false,0,0,0,0,[],[]⟩) O (w _ _ _ _ (by omega) h1 (by omega) (by simp;omega)) rfl rfl (dG (by simp)) ?_;refine fT (q:=⟨2,0,0,false,0,0,0,0,[],[]⟩) O (w _ _ _ _ (by omega) h1 (by omega) (by simp;omega)) rfl rfl (dG (by omega)) ?_;refine tS (q:=⟨11,30,0,false,0,0,0,0,[],[]⟩) O (w _ _ _ _ (by omega) h1 (by omega) (by simp;omega)) rfl rfl (j:=30) rfl ?_;unfold adW at r;rw [show ((c.data.drop (a+1)).take b).length=b by rw [Bq];omega] at r;exact r
   have IH:=ih (a+1+b) a (p+4) (sl.set 6 b) (ks++[adW ((c.data.drop (a+1)).take b)]) (by omega) (by omega) h1 (by omega) o6.len o6.small (by rw [A7];simp;omega)
   rw [Bu]
   cases e:eJ k (c.data.drop (a+1+b)) with
   |none=>
    rw [e] at IH;obtain ⟨t,n,hn,r,b1,b2⟩:=IH;exact ⟨t,n+7,by omega,go1 r,b1,b2⟩
   |some xr=>
    obtain ⟨x,r⟩:=xr;rw [e] at IH;obtain ⟨m,l',p',n,sl',er,m1,m2,hl',hp',hn,so,H⟩:=IH;refine ⟨1+b+m,l',p',n+7,sl',by rw [er,Cq,Cq,←Cq 1],by omega,by omega,hl',by omega,by omega,o6.trans so,fun t n' r'=>?_⟩;rw [show n'+(n+7)=n'+n+7 by omega];refine go1 (H t n' ?_);have ek:ks++[adW ((c.data.drop (a+1)).take b)]++mc x=ks++mc ⟨(c.data.drop (a+1)).take b::x.labels,x.ptr⟩:=by unfold mc;simp
    rw [ek,show a+1+b+m=a+(1+b+m) by omega];exact r'
end
structure DQ where
 name:kQ
 ty:Nat
 cls:Nat
structure DR where
 name:kQ
 ty:Nat
 cls:Nat
 ttl:Nat
 dat:List Nat
def be2 (b:List Nat):Nat:=mU false (b.take 2)
def be4 (b:List Nat):Nat:=mU false (b.take 4)
def eR (b:List Nat):Option (DQ×List Nat):=match eJ (b.length+1) b with
 |none=>none
 |some (n,r)=>if r.length<4 then none else some (⟨n,be2 r,be2 (r.drop 2)⟩,r.drop 4)
def fC (b:List Nat):Option (DR×List Nat):=match eJ (b.length+1) b with
 |none=>none
 |some (n,r)=>if r.length<10 then none else if r.length<10+be2 (r.drop 8) then none else some (⟨n,be2 r,be2 (r.drop 2),be4 (r.drop 4),(r.drop 10).take (be2 (r.drop 8))⟩,r.drop (10+be2 (r.drop 8)))
def bR {α:Type} (f:List Nat→Option (α×List Nat)):Nat→List Nat→Option (List α×List Nat)
 |0,b=>some ([],b)
 |n+1,b=>match f b with
  |none=>none
  |some (x,r)=>match bR f n r with
   |none=>none
   |some (L,r')=>some (x::L,r')
def j7 (q:DQ):PT:=.nd 0 false [] [fU q.name,lf q.ty,lf q.cls]
def jy (q:DR):PT:=.nd 0 false [] [fU q.name,lf q.ty,lf q.cls,lf q.ttl,lf q.dat.length,.nd 0 false q.dat []]
section
variable {c:PC} {a l p:Nat} {sl sl':List Nat} {R:List PT} {ct cl:List Nat}
def zw {α:Type} (c:PC) (e:Nat) (f:List Nat→Option (α×List Nat)) (g:α→PT):Prop:=
 ∀(a l p:Nat) (sl:List Nat) (tk:List PT) (tn j:Nat) (R:List PT) (ct cl:List Nat),tk.length≤80000→R.length+20≤c.depth→cl.length≤70000→a≤c.data.length→l≤c.data.length→p+20*(c.data.length-a)+60≤c.tokens→sl.length=15→(∀x∈sl,x<18446744073709551616)→
  match f (c.data.drop a) with
  |none=>∃t n,n≤20*(c.data.length-a)+60∧bF c DP e (PR.mk0 a l p sl (.nd tn false [] tk::R) ct (j::cl)) t n∧t.code≠0∧t.at_≤c.data.length
  |some (x,r)=>∃m l' p' n sl',r=c.data.drop (a+m)∧1≤m∧a+m≤c.data.length∧l'≤c.data.length∧p'≤p+20*m∧n≤20*m∧SlO sl sl'∧
   ∀t n',bF c DP j (PR.mk0 (a+m) l' p' sl' (.nd tn false [] (tk++[g x])::R) ct cl) t n'→bF c DP e (PR.mk0 a l p sl (.nd tn false [] tk::R) ct (j::cl)) t (n'+n)
theorem jI (hb: ∀b∈c.data,b<256) (a:Nat):be2 (c.data.drop a)<65536:=by
 have:=abJ (l:=(c.data.drop a).take 2) (fun b h=>hb b (BY (BX h))) false
 have hl:((c.data.drop a).take 2).length≤2:=by rw [Bq];omega
 have:256^((c.data.drop a).take 2).length≤256^2:=Nat.pow_le_pow_right (by decide) hl
 unfold be2;omega
theorem aoa (hb: ∀b∈c.data,b<256) (a:Nat):be4 (c.data.drop a)<4294967296:=by
 have:=abJ (l:=(c.data.drop a).take 4) (fun b h=>hb b (BY (BX h))) false
 have hl:((c.data.drop a).take 4).length≤4:=by rw [Bq];omega
 have:256^((c.data.drop a).take 4).length≤256^4:=Nat.pow_le_pow_right (by decide) hl
 unfold be4;omega
theorem iN {tk:List PT} {tn i s:Nat} {t:PR} {n:Nat} (O:Ok c) (hb: ∀b∈c.data,b<256) (W:Wg c a l p (.nd tn false [] tk::R)) (eq:DP[i]? =some ⟨3,2,s,false,0,65535,0,0,[],[]⟩) (hs:s<15) (h5:sl.length=15) (htk:tk.length≤90000) (hl:a+2≤c.data.length)
 (r:bF c DP (i+1) (PR.mk0 (a+2) a (p+1) (sl.set s (be2 (c.data.drop a))) (.nd tn false [] (tk++[lf (be2 (c.data.drop a))])::R) ct cl) t n):bF c DP i (PR.mk0 a l p sl (.nd tn false [] tk::R) ct cl) t (n+1):=
 vK (m:=2) (x:=be2 (c.data.drop a)) O W eq rfl rfl (by decide) (by decide) (by show (0:Int)≤(s:Int);omega) (by show (s:Int)<_;rw [h5];omega) (dG htk) hl rfl ⟨Cm _,Nat.le_of_lt_succ (jI hb a)⟩ r
theorem dj {tk:List PT} {tn i s:Nat} (O:Ok c) (W:Wg c a l p (.nd tn false [] tk::R)) (eq:DP[i]? =some ⟨3,2,s,false,0,65535,0,0,[],[]⟩) (hs:s<15) (h5:sl.length=15) (htk:tk.length≤90000) (hl:c.data.length<a+2):
 ∃t,bF c DP i (PR.mk0 a l p sl (.nd tn false [] tk::R) ct cl) t 1∧t.code≠0∧t.at_≤c.data.length:=
 pj (m:=2) O W eq rfl rfl (by decide) (by decide) (by show (s:Int)<_;rw [h5];omega) (dG htk) (.inl hl)
theorem atO (hlen:c.data.length≤10000) (O:Ok c) (hb: ∀b∈c.data,b<256) {tk:List PT} {tn i j:Nat} (hi:DP[i]? =some ⟨15,29,0,false,0,0,0,0,[],[]⟩) (hj:j=i+1) (hT:tk.length≤80000) (hdep:R.length+12≤c.depth) (hcl:cl.length≤80000) (h1:a≤c.data.length) (h2:l≤c.data.length) (h3:p+8*(c.data.length-a)+30≤c.tokens) (h5:sl.length=15) (h6: ∀x∈sl,x<18446744073709551616):
 match eJ ((c.data.drop a).length+1) (c.data.drop a) with
 |none=>∃t n,n≤7*(c.data.length-a)+9∧bF c DP i (PR.mk0 a l p sl (.nd tn false [] tk::R) ct cl) t n∧t.code≠0∧t.at_≤c.data.length
 |some (x,r)=>∃m l' p' n sl',r=c.data.drop (a+m)∧1≤m∧a+m≤c.data.length∧l'≤c.data.length∧p'≤p+1+8*m∧n≤7*m+2∧SlO sl sl'∧
  ∀t n',bF c DP j (PR.mk0 (a+m) l' p' sl' (.nd tn false [] (tk++[fU x])::R) ct cl) t n'→bF c DP i (PR.mk0 a l p sl (.nd tn false [] tk::R) ct cl) t (n'+n):=by
 subst hj;have O1:=O.len;have beg: ∀{t n},bF c DP 30 (PR.mk0 a l (p+1) sl (.nd 0 false [] []:: .nd tn false [] tk::R) ct ((i+1)::cl)) t n→bF c DP i (PR.mk0 a l p sl (.nd tn false [] tk::R) ct cl) t (n+2):=fun r=>
  afS O ⟨h1,h2,by omega,by simp;omega⟩ hi rfl (j:=29) rfl (by omega) (qQ (q:=⟨1,0,0,false,0,0,0,0,[],[]⟩) O ⟨h1,h2,by omega,by simp;omega⟩ rfl rfl r)
 have hd:(c.data.drop a).length=c.data.length-a:=by simp
 have H:=asS (ct:=ct) (cl:=cl) (R:=R) (tk:=tk) (tn:=tn) (j:=i+1) O hb hT (by omega) hcl ((c.data.drop a).length+1) a l (p+1) sl [] (by omega) h1 h2 (by omega) h5 h6 (by simp;omega)
 cases e:eJ ((c.data.drop a).length+1) (c.data.drop a) with
 |none=>
  rw [e] at H;obtain ⟨t,n,hn,r,b1,b2⟩:=H;exact ⟨t,n+2,by omega,beg r,b1,b2⟩
 |some xr=>
  obtain ⟨x,r⟩:=xr;rw [e] at H;obtain ⟨m,l',p',n,sl',er,m1,m2,hl',hp',hn,so,H⟩:=H;refine ⟨m,l',p',n+2,sl',er,m1,m2,hl',by omega,by omega,so,fun t n' r'=>?_⟩;rw [show n'+(n+2)=n'+n+2 by omega];exact beg (H t n' (by rw [BO];exact r'))
theorem apZ (hlen:c.data.length≤10000) (O:Ok c) (hb: ∀b∈c.data,b<256):zw c 45 eR j7:=by
 intro a l p sl tk tn j R ct cl hT hdep hcl h1 h2 h3 h5 h6;have w: ∀(a l p:Nat) (st:List PT),a≤c.data.length→l≤c.data.length→p+1≤c.tokens→st.length≤c.depth→Wg c a l p st:=fun _ _ _ _ a b c d=>⟨a,b,c,d⟩
 have beg: ∀{t n},bF c DP 46 (PR.mk0 a l (p+1) sl (.nd 0 false [] []:: .nd tn false [] tk::R) ct (j::cl)) t n→bF c DP 45 (PR.mk0 a l p sl (.nd tn false [] tk::R) ct (j::cl)) t (n+1):=fun r=>
  qQ (q:=⟨1,0,0,false,0,0,0,0,[],[]⟩) O (w _ _ _ _ h1 h2 (by omega) (by simp;omega)) rfl rfl r
 have H:=atO hlen (ct:=ct) (cl:=j::cl) (R:=.nd tn false [] tk::R) (tk:=[]) (tn:=0) (i:=46) (l:=l) (p:=p+1) O hb rfl rfl (by simp) (by simp;omega) (by simp;omega) h1 h2 (by omega) h5 h6
 unfold eR
 cases e:eJ ((c.data.drop a).length+1) (c.data.drop a) with
 |none=>
  rw [e] at H;obtain ⟨t,n,hn,r,b1,b2⟩:=H;exact ⟨t,n+1,by omega,beg r,b1,b2⟩
 |some xr=>
  obtain ⟨x,r⟩:=xr;rw [e] at H;obtain ⟨m,l',p',n,sl',er,m1,m2,hl',hp',hn,so,H⟩:=H;have dl:r.length=c.data.length-(a+m):=by rw [er];simp
  dsimp only
  have W47:Wg c (a+m) l' p' (.nd 0 false [] [fU x]:: .nd tn false [] tk::R):=w _ _ _ _ m2 hl' (by omega) (by simp;omega)
  by_cases hl:r.length<4
  ·rw [if_pos hl]
   by_cases hl2:c.data.length<a+m+2
   ·obtain ⟨t,r,b1,b2⟩:=dj (sl:=sl') (ct:=ct) (cl:=j::cl) (i:=47) (s:=9) O W47 rfl (by decide) so.len (by simp) hl2
    exact ⟨t,1+n+1,by omega,beg (H t 1 r),b1,b2⟩
   ·have o1:=so.set (i:=9) (x:=be2 (c.data.drop (a+m))) (by decide) (Cv (jI hb _) (by decide))
    obtain ⟨t,r,b1,b2⟩:=dj (a:=a+m+2) (l:=a+m) (p:=p'+1) (tk:=[fU x]++[lf (be2 (c.data.drop (a+m)))]) (tn:=0) (R:=.nd tn false [] tk::R) (sl:=sl'.set 9 (be2 (c.data.drop (a+m)))) (ct:=ct) (cl:=j::cl) (i:=48) (s:=10) O (w _ _ _ _ (by omega) m2 (by omega) (by simp;omega)) rfl (by decide) o1.len (by simp) (by omega)
    exact ⟨t,1+1+n+1,by omega,beg (H t _ (iN (i:=47) (s:=9) O hb W47 rfl (by decide) so.len (by simp) (by omega) r)),b1,b2⟩
  ·rw [if_neg hl]
   have o1:=so.set (i:=9) (x:=be2 (c.data.drop (a+m))) (by decide) (Cv (jI hb _) (by decide));have o2:=o1.set (i:=10) (x:=be2 (c.data.drop (a+m+2))) (by decide) (Cv (jI hb _) (by decide));refine ⟨m+4,a+m+2,p'+2,n+5,_,by rw [er,Bu,Cq],by omega,by omega,by omega,by omega,by omega,o2,fun t n' r'=>?_⟩;rw [show n'+(n+5)=n'+4+n+1 by omega];refine beg (H t _ (iN (i:=47) (s:=9) O hb W47 rfl (by decide) so.len (by simp) (by omega) (iN (i:=48) (s:=10) O hb (w _ _ _ _ (by omega) m2 (by omega) (by simp;omega)) rfl (by decide) o1.len (by simp) (by omega) ?_)));refine fT (q:=⟨2,0,0,false,0,0,0,0,[],[]⟩) O (w _ _ _ _ (by omega) (by omega) (by omega) (by simp;omega)) rfl rfl (dG (by omega)) ?_;refine acV (q:=⟨16,0,0,false,0,0,0,0,[],[]⟩) O (w _ _ _ _ (by omega) (by omega) (by omega) (by simp;omega)) rfl rfl (by simp;omega) ?_;have eq:j7 ⟨x,be2 r,be2 (r.drop 2)⟩= .nd 0 false [] ([fU x]++[lf (be2 (c.data.drop (a+m)))]++[lf (be2 (c.data.drop (a+m+2)))]):=by
    unfold j7;rw [er,Bu];rfl
   rw [eq,show a+(m+4)=a+m+2+2 by omega] at r';exact r'
theorem arW {tk:List PT} {tn i s:Nat} {t:PR} {n:Nat} (O:Ok c) (hb: ∀b∈c.data,b<256) (W:Wg c a l p (.nd tn false [] tk::R)) (eq:DP[i]? =some ⟨3,4,s,false,0,4294967295,0,0,[],[]⟩) (hs:s<15) (h5:sl.length=15) (htk:tk.length≤90000) (hl:a+4≤c.data.length)
 (r:bF c DP (i+1) (PR.mk0 (a+4) a (p+1) (sl.set s (be4 (c.data.drop a))) (.nd tn false [] (tk++[lf (be4 (c.data.drop a))])::R) ct cl) t n):bF c DP i (PR.mk0 a l p sl (.nd tn false [] tk::R) ct cl) t (n+1):=
 vK (m:=4) (x:=be4 (c.data.drop a)) O W eq rfl rfl (by decide) (by decide) (by show (0:Int)≤(s:Int);omega) (by show (s:Int)<_;rw [h5];omega) (dG htk) hl rfl ⟨Cm _,Nat.le_of_lt_succ (aoa hb a)⟩ r
theorem adG (hlen:c.data.length≤10000) (O:Ok c) (hb: ∀b∈c.data,b<256):zw c 51 fC jy:=by
 intro a l p sl tk tn j R ct cl hT hdep hcl h1 h2 h3 h5 h6;have w: ∀(a l p:Nat) (st:List PT),a≤c.data.length→l≤c.data.length→p+1≤c.tokens→st.length≤c.depth→Wg c a l p st:=fun _ _ _ _ a b c d=>⟨a,b,c,d⟩
 have beg: ∀{t n},bF c DP 52 (PR.mk0 a l (p+1) sl (.nd 0 false [] []:: .nd tn false [] tk::R) ct (j::cl)) t n→bF c DP 51 (PR.mk0 a l p sl (.nd tn false [] tk::R) ct (j::cl)) t (n+1):=fun r=>
  qQ (q:=⟨1,0,0,false,0,0,0,0,[],[]⟩) O (w _ _ _ _ h1 h2 (by omega) (by simp;omega)) rfl rfl r
 have H:=atO hlen (ct:=ct) (cl:=j::cl) (R:=.nd tn false [] tk::R) (tk:=[]) (tn:=0) (i:=52) (l:=l) (p:=p+1) O hb rfl rfl (by simp) (by simp;omega) (by simp;omega) h1 h2 (by omega) h5 h6
 unfold fC
 cases e:eJ ((c.data.drop a).length+1) (c.data.drop a) with
 |none=>
  rw [e] at H;obtain ⟨t,n,hn,r,b1,b2⟩:=H;exact ⟨t,n+1,by omega,beg r,b1,b2⟩
 |some xr=>
  obtain ⟨x,r⟩:=xr;rw [e] at H;obtain ⟨m,l',p',n,sl',er,m1,m2,hl',hp',hn,so,H⟩:=H;have dl:r.length=c.data.length-(a+m):=by rw [er];simp
  dsimp only
  have st: ∀(a l p:Nat) (ks:List PT),a≤c.data.length→l≤c.data.length→p≤p'+10→Wg c a l p (.nd 0 false [] ks:: .nd tn false [] tk::R):=fun a l p ks ha hl hp=>w _ _ _ _ ha hl (by omega) (by simp;omega)
  -- the numbers
  obtain ⟨v1,hv1⟩: ∃v,v=be2 (c.data.drop (a+m)):=⟨_,rfl⟩;obtain ⟨v2,hv2⟩: ∃v,v=be2 (c.data.drop (a+m+2)):=⟨_,rfl⟩;obtain ⟨o,hv3⟩: ∃v,v=be4 (c.data.drop (a+m+4)):=⟨_,rfl⟩;obtain ⟨k,hv4⟩: ∃v,v=be2 (c.data.drop (a+m+8)):=⟨_,rfl⟩;have u1:v1<18446744073709551616:=by rw [hv1];exact Cv (jI hb _) (by decide)
  have u2:v2<18446744073709551616:=by rw [hv2];exact Cv (jI hb _) (by decide)
  have u3:o<18446744073709551616:=by rw [hv3];exact Cv (aoa hb _) (by decide)
  have u4:k<18446744073709551616:=by rw [hv4];exact Cv (jI hb _) (by decide)
  have o1:=so.set (i:=11) (x:=v1) (by decide) u1;have o2:=o1.set (i:=12) (x:=v2) (by decide) u2;have o3:=o2.set (i:=13) (x:=o) (by decide) u3;have o4:=o3.set (i:=14) (x:=k) (by decide) u4;have g1:a+m+2≤c.data.length→ ∀{t n'},bF c DP 54 (PR.mk0 (a+m+2) (a+m) (p'+1) (sl'.set 11 v1) (.nd 0 false [] [fU x,lf v1]:: .nd tn false [] tk::R) ct (j::cl)) t n'→bF c DP 51 (PR.mk0 a l p sl (.nd tn false [] tk::R) ct (j::cl)) t (n'+1+n+1):=fun hl {t n'} r=>by
   rw [hv1] at r;exact beg (H t _ (iN (i:=53) (s:=11) O hb (st _ _ _ _ m2 hl' (by omega)) rfl (by decide) so.len (by simp) hl r))
  have g2:a+m+4≤c.data.length→ ∀{t n'},bF c DP 55 (PR.mk0 (a+m+4) (a+m+2) (p'+2) ((sl'.set 11 v1).set 12 v2) (.nd 0 false [] [fU x,lf v1,lf v2]:: .nd tn false [] tk::R) ct (j::cl)) t n'→bF c DP 51 (PR.mk0 a l p sl (.nd tn false [] tk::R) ct (j::cl)) t (n'+1+1+n+1):=fun hl {t n'} r=>by
   rw [hv2] at r;exact g1 (by omega) (iN (i:=54) (s:=12) O hb (st _ _ _ _ (by omega) m2 (by omega)) rfl (by decide) o1.len (by simp) hl r)
  have g3:a+m+8≤c.data.length→ ∀{t n'},bF c DP 56 (PR.mk0 (a+m+8) (a+m+4) (p'+3) (((sl'.set 11 v1).set 12 v2).set 13 o) (.nd 0 false [] [fU x,lf v1,lf v2,lf o]:: .nd tn false [] tk::R) ct (j::cl)) t n'→bF c DP 51 (PR.mk0 a l p sl (.nd tn false [] tk::R) ct (j::cl)) t (n'+1+1+1+n+1):=fun hl {t n'} r=>by
   rw [hv3] at r;exact g2 (by omega) (arW (i:=55) (s:=13) O hb (st _ _ _ _ (by omega) (by omega) (by omega)) rfl (by decide) o2.len (by simp) hl r)
  have g4:a+m+10≤c.data.length→ ∀{t n'},bF c DP 57 (PR.mk0 (a+m+10) (a+m+8) (p'+4) ((((sl'.set 11 v1).set 12 v2).set 13 o).set 14 k) (.nd 0 false [] [fU x,lf v1,lf v2,lf o,lf k]:: .nd tn false [] tk::R) ct (j::cl)) t n'→bF c DP 51 (PR.mk0 a l p sl (.nd tn false [] tk::R) ct (j::cl)) t (n'+1+1+1+1+n+1):=fun hl {t n'} r=>by
   rw [hv4] at r;exact g3 (by omega) (iN (i:=56) (s:=14) O hb (st _ _ _ _ (by omega) (by omega) (by omega)) rfl (by decide) o3.len (by simp) hl r)
  have W57:a+m+10≤c.data.length→Wg c (a+m+10) (a+m+8) (p'+4) (.nd 0 false [] [fU x,lf v1,lf v2,lf o,lf k]:: .nd tn false [] tk::R):=fun h=>st _ _ _ _ h (by omega) (by omega)
  have g57:DP[57]? =some ⟨6,14,0,false,0,0,1,0,[],[]⟩:=rfl;have pm:adp ⟨6,14,0,false,0,0,1,0,[],[]⟩ (PR.mk0 (a+m+10) (a+m+8) (p'+4) ((((sl'.set 11 v1).set 12 v2).set 13 o).set 14 k) (.nd 0 false [] [fU x,lf v1,lf v2,lf o,lf k]:: .nd tn false [] tk::R) ct (j::cl)):=.inr ⟨by show (14:Int)<(((((sl'.set 11 v1).set 12 v2).set 13 o).set 14 k).length:Int);rw [o4.len];decide,rfl,rfl,o4.small⟩;have mn:(if (⟨6,14,0,false,0,0,1,0,[],[]⟩:PS).a<0 then (⟨6,14,0,false,0,0,1,0,[],[]⟩:PS).add else ((((sl'.set 11 v1).set 12 v2).set 13 o).set 14 k).getD (⟨6,14,0,false,0,0,1,0,[],[]⟩:PS).a.toNat 0)=k:=by
   show ((((sl'.set 11 v1).set 12 v2).set 13 o).set 14 k).getD 14 0=k;rw [Bf,CO (by rw [o3.len];decide)];rfl
  have es:be2 (r.drop 8)=k:=by rw [er,Bu,hv4]
  by_cases hl:r.length<10
  ·rw [if_pos hl]
   by_cases q3:a+m+8≤c.data.length
   ·obtain ⟨t,r,b1,b2⟩:=dj (sl:=((sl'.set 11 v1).set 12 v2).set 13 o) (ct:=ct) (cl:=j::cl) (i:=56) (s:=14) O (st _ _ _ _ q3 (show a+m+4≤_ by omega) (show p'+3≤_ by omega)) rfl (by decide) o3.len (tk:=[fU x,lf v1,lf v2,lf o]) (by simp) (by omega)
    exact ⟨t,_,by omega,g3 q3 r,b1,b2⟩
   by_cases q2:a+m+4≤c.data.length
   ·obtain ⟨t,r,b1,b2⟩:=pj (sl:=(sl'.set 11 v1).set 12 v2) (ct:=ct) (cl:=j::cl) (m:=4) (q:=⟨3,4,13,false,0,4294967295,0,0,[],[]⟩) (P:=DP) (i:=55) O (st _ _ _ [fU x,lf v1,lf v2] q2 (show a+m+2≤_ by omega) (show p'+2≤_ by omega)) rfl rfl rfl (by decide) (by decide) (by rw [o2.len];decide) (dG (by simp)) (.inl (by omega))
    exact ⟨t,_,by omega,g2 q2 r,b1,b2⟩
   by_cases q1:a+m+2≤c.data.length
   ·obtain ⟨t,r,b1,b2⟩:=dj (sl:=sl'.set 11 v1) (ct:=ct) (cl:=j::cl) (i:=54) (s:=12) O (st _ _ _ _ q1 m2 (show p'+1≤_ by omega)) rfl (by decide) o1.len (tk:=[fU x,lf v1]) (by simp) (by omega)
    exact ⟨t,_,by omega,g1 q1 r,b1,b2⟩
   obtain ⟨t,r,b1,b2⟩:=dj (sl:=sl') (ct:=ct) (cl:=j::cl) (i:=53) (s:=11) O (st _ _ _ _ m2 hl' (show p'≤_ by omega)) rfl (by decide) so.len (tk:=[fU x]) (by simp) (by omega);exact ⟨t,1+n+1,by omega,beg (H t 1 r),b1,b2⟩
  rw [if_neg hl,es]
  by_cases hl2:r.length<10+k
  ·rw [if_pos hl2]
   obtain ⟨t,r,b1,b2⟩:=sV (ct:=ct) (cl:=j::cl) O (W57 (by omega)) g57 rfl pm mn (by omega) (dG (by simp));exact ⟨t,_,by omega,g4 (by omega) r,b1,b2⟩
  rw [if_neg hl2];refine ⟨m+10+k,a+m+8,p'+5,n+8,_,by rw [er,Bu];congr 1;omega,by omega,by omega,by omega,by omega,by omega,o4,fun t n' r'=>?_⟩;rw [show n'+(n+8)=n'+3+1+1+1+1+n+1 by omega];refine g4 (by omega) (agy (ct:=ct) (cl:=j::cl) O (W57 (by omega)) g57 rfl pm mn (by omega) (dG (by simp)) ?_);refine fT (q:=⟨2,0,0,false,0,0,0,0,[],[]⟩) O (st _ _ _ _ (by omega) (by omega) (by omega)) rfl rfl (dG (by omega)) ?_;refine acV (q:=⟨16,0,0,false,0,0,0,0,[],[]⟩) O (w _ _ _ _ (by omega) (by omega) (by omega) (by simp;omega)) rfl rfl (by simp;omega) ?_;have eq:jy ⟨x,be2 r,be2 (r.drop 2),be4 (r.drop 4),(r.drop 10).take k⟩= .nd 0 false [] ([fU x,lf v1,lf v2,lf o,lf k]++[.nd 0 false ((c.data.drop (a+m+10)).take k) []]):=by
   unfold jy;have e10:((r.drop 10).take k).length=k:=by rw [Bq,Bi];omega
   simp only [e10];rw [hv1,hv2,hv3,er];simp only [Bu];rfl
  rw [eq,show a+(m+10+k)=a+m+10+k by omega] at r';exact r'
end
structure rZ where
 id:Nat
 flags:Nat
 qs:List DQ
 r0:List DR
 r1:List DR
 r2:List DR
def iS (b:List Nat):Option rZ:=if b.length<12 then none else match bR eR (be2 (b.drop 4)) (b.drop 12) with
 |none=>none
 |some (qs,x0)=>match bR fC (be2 (b.drop 6)) x0 with
  |none=>none
  |some (r0,x1)=>match bR fC (be2 (b.drop 8)) x1 with
   |none=>none
   |some (r1,x2)=>match bR fC (be2 (b.drop 10)) x2 with
    |none=>none
    |some (r2,x3)=>if x3=[] then some ⟨be2 b,be2 (b.drop 2),qs,r0,r1,r2⟩ else none
def jQ {α:Type} (g:α→PT) (l:List α):PT:=.nd 0 false [] (l.map g)
def aie (m:rZ) (ns:List Nat):PT:=.nd 0 false [] ([lf m.id,lf m.flags]++ns.map lf++[jQ j7 m.qs,jQ jy m.r0,jQ jy m.r1,jQ jy m.r2])
section
variable {c:PC} {a l p:Nat} {sl sl':List Nat} {R:List PT} {ct cl:List Nat}
theorem asb {α:Type} {f:List Nat→Option (α×List Nat)} {g:α→PT} {h e:Nat} (hlen:c.data.length≤10000) (O:Ok c) (F:zw c e f g)
 (g0:DP[h]? =some ⟨10,((h+3:Nat):Int),0,false,0,0,0,0,[],[]⟩) (g1:DP[h+1]? =some ⟨15,(e:Int),0,false,0,0,0,0,[],[]⟩) (g2:DP[h+2]? =some ⟨11,(h:Int),0,false,0,0,0,0,[],[]⟩) (hdep:R.length+30≤c.depth) (hcl:cl.length≤60000) (hct:ct.length≤60000) (hcn: ∀n∈ct,n<18446744073709551616):
 ∀(n a l p:Nat) (sl:List Nat) (tk:List PT),n<18446744073709551616→a≤c.data.length→l≤c.data.length→p+20*(c.data.length-a)+80≤c.tokens→sl.length=15→(∀x∈sl,x<18446744073709551616)→tk.length+(c.data.length-a)≤70000→
  match bR f n (c.data.drop a) with
  |none=>∃t k,k≤23*(c.data.length-a)+70∧bF c DP h (PR.mk0 a l p sl (.nd 0 false [] tk::R) (n::ct) cl) t k∧t.code≠0∧t.at_≤c.data.length
  |some (L,r)=>∃m l' p' k sl',r=c.data.drop (a+m)∧a+m≤c.data.length∧l'≤c.data.length∧p'≤p+20*m∧k≤23*m+1∧SlO sl sl'∧
   ∀t k',bF c DP (h+3) (PR.mk0 (a+m) l' p' sl' (.nd 0 false [] (tk++L.map g)::R) ct cl) t k'→bF c DP h (PR.mk0 a l p sl (.nd 0 false [] tk::R) (n::ct) cl) t (k'+k):=by
 have w: ∀(a l p:Nat) (st:List PT),a≤c.data.length→l≤c.data.length→p+1≤c.tokens→st.length≤c.depth→Wg c a l p st:=fun _ _ _ _ a b c d=>⟨a,b,c,d⟩
 intro n
 induction n with
 |zero=>
  intro a l p sl tk hn h1 h2 h3 h5 h6 h7;refine ⟨0,l,p,1,sl,rfl,h1,h2,by omega,by omega,SlO.rfl h5 h6,fun t k' r=>?_⟩;exact abn O (w _ _ _ _ h1 h2 (by omega) (by simp;omega)) g0 rfl (j:=h+3) rfl (by simp;omega) hcn (by simpa using r)
 |succ n ih=>
  intro a l p sl tk hn h1 h2 h3 h5 h6 h7;have beg: ∀{t k},bF c DP e (PR.mk0 a l p sl (.nd 0 false [] tk::R) (n::ct) ((h+2)::cl)) t k→bF c DP h (PR.mk0 a l p sl (.nd 0 false [] tk::R) ((n+1)::ct) cl) t (k+2):=fun r=>
   aq8 O (w _ _ _ _ h1 h2 (by omega) (by simp;omega)) g0 rfl (by show (0:Int)≤((h+3:Nat):Int);omega) (by simp;omega) (fun x hx=>by
    rcases Bv.1 hx with rfl|hx
    ·exact hn
    ·exact hcn x hx) (afS O (w _ _ _ _ h1 h2 (by omega) (by simp;omega)) g1 rfl (j:=e) rfl (by omega) r)
  have H:=F a l p sl tk 0 (h+2) R (n::ct) cl (by omega) (by omega) (by omega) h1 h2 (by omega) h5 h6;unfold bR
  cases e1:f (c.data.drop a) with
  |none=>
   rw [e1] at H;obtain ⟨t,k,hk,r,b1,b2⟩:=H;exact ⟨t,k+2,by omega,beg r,b1,b2⟩
  |some xr=>
   obtain ⟨x,r⟩:=xr;rw [e1] at H;obtain ⟨m,l',p',k,sl',er,m1,m2,hl',hp',hk,so,H⟩:=H;have IH:=ih (a+m) l' p' sl' (tk++[g x]) (by omega) m2 hl' (by omega) so.len so.small (by rw [A7];simp;omega)
   dsimp only
   rw [er];have jmp: ∀{t k},bF c DP h (PR.mk0 (a+m) l' p' sl' (.nd 0 false [] (tk++[g x])::R) (n::ct) cl) t k→bF c DP (h+2) (PR.mk0 (a+m) l' p' sl' (.nd 0 false [] (tk++[g x])::R) (n::ct) cl) t (k+1):=fun r=>
    tS O (w _ _ _ _ m2 hl' (by omega) (by simp;omega)) g2 rfl (j:=h) rfl r
   cases e2:bR f n (c.data.drop (a+m)) with
   |none=>
    rw [e2] at IH;obtain ⟨t,k2,hk2,r2,b1,b2⟩:=IH;exact ⟨t,_,by omega,beg (H t _ (jmp r2)),b1,b2⟩
   |some Lr=>
    obtain ⟨L,r2⟩:=Lr;rw [e2] at IH;obtain ⟨m',l2,p2,k2,sl2,er2,m2',hl2,hp2,hk2,so2,H2⟩:=IH;refine ⟨m+m',l2,p2,k2+1+k+2,sl2,by rw [er2,Cq],by omega,hl2,by omega,by omega,so.trans so2,fun t k' r'=>?_⟩;rw [show k'+(k2+1+k+2)=k'+k2+1+k+2 by omega];refine beg (H t _ (jmp (H2 t k' ?_)));rw [BJ,show a+m+m'=a+(m+m') by omega];exact r'
theorem pQ {α:Type} {f:List Nat→Option (α×List Nat)} {g:α→PT} {s h e:Nat} (hlen:c.data.length≤10000) (O:Ok c) (F:zw c e f g)
 (gc:DP[h]? =some ⟨9,(s:Int),0,false,0,0,1,0,[],[]⟩) (g0:DP[h+1]? =some ⟨10,((h+1+3:Nat):Int),0,false,0,0,0,0,[],[]⟩) (g1:DP[h+1+1]? =some ⟨15,(e:Int),0,false,0,0,0,0,[],[]⟩) (g2:DP[h+1+2]? =some ⟨11,((h+1:Nat):Int),0,false,0,0,0,0,[],[]⟩) (g3:DP[h+1+3]? =some ⟨2,0,0,false,0,0,0,0,[],[]⟩) (hs:s<6) {v:Nat} (hv:sl[s]? =some v)
 {tk:List PT} (htk:tk.length≤1000) (hR:R.length+40≤c.depth) (h1:a≤c.data.length) (h2:l≤c.data.length) (h3:p+20*(c.data.length-a)+90≤c.tokens) (h5:sl.length=15) (h6: ∀x∈sl,x<18446744073709551616):
 match bR f v (c.data.drop a) with
 |none=>∃t k,k≤23*(c.data.length-a)+80∧bF c DP h (PR.mk0 a l p sl (.nd 0 false [] tk::R) [] []) t k∧t.code≠0∧t.at_≤c.data.length
 |some (L,r)=>∃m l' p' k sl',r=c.data.drop (a+m)∧a+m≤c.data.length∧l'≤c.data.length∧p'≤p+1+20*m∧k≤23*m+3∧SlO sl sl'∧
  ∀t k',bF c DP (h+5) (PR.mk0 (a+m) l' p' sl' (.nd 0 false [] (tk++[jQ g L])::R) [] []) t k'→bF c DP h (PR.mk0 a l p sl (.nd 0 false [] tk::R) [] []) t (k'+k):=by
 have w: ∀(a l p:Nat) (st:List PT),a≤c.data.length→l≤c.data.length→p+1≤c.tokens→st.length≤c.depth→Wg c a l p st:=fun _ _ _ _ a b c d=>⟨a,b,c,d⟩
 have hv64:v<18446744073709551616:=h6 v (Bg hv);have beg: ∀{t k},bF c DP (h+1) (PR.mk0 a l (p+1) sl (.nd 0 false [] []:: .nd 0 false [] tk::R) [v] []) t k→bF c DP h (PR.mk0 a l p sl (.nd 0 false [] tk::R) [] []) t (k+1):=fun r=>
  aoY O (w _ _ _ _ h1 h2 (by omega) (by simp;omega)) gc rfl (.inr ⟨by show (s:Int)<(sl.length:Int);omega,rfl,rfl,h6⟩) (by simp) (m:=v) (by
   show (if (s:Int)<0 then 0 else sl.getD (s:Int).toNat 0)=v;rw [if_neg (by omega),show (s:Int).toNat=s from rfl,Bf,hv];rfl) r
 have H:=asb (R:=.nd 0 false [] tk::R) (ct:=[]) (cl:=[]) hlen O F g0 g1 g2 (by simp;omega) (by simp) (by simp) (by simp) v a l (p+1) sl [] hv64 h1 h2 (by omega) h5 h6 (by simp;omega)
 cases e1:bR f v (c.data.drop a) with
 |none=>
  rw [e1] at H;obtain ⟨t,k,hk,r,b1,b2⟩:=H;exact ⟨t,k+1,by omega,beg r,b1,b2⟩
 |some Lr=>
  obtain ⟨L,r⟩:=Lr;rw [e1] at H;obtain ⟨m,l',p',k,sl',er,m2,hl',hp',hk,so,H⟩:=H;refine ⟨m,l',p',k+2,sl',er,m2,hl',by omega,by omega,so,fun t k' r'=>?_⟩;rw [show k'+(k+2)=k'+1+k+1 by omega];refine beg (H t _ ?_);rw [BO];exact fT O (w _ _ _ _ m2 hl' (by omega) (by simp;omega)) g3 rfl (dG (by omega)) r'
theorem aqN (O:Ok c) (hb: ∀b∈c.data,b<256) (hlen:c.data.length≤10000) (htok:300000≤c.tokens) (hdep:100≤c.depth):
 ∃t n,n≤400000∧bF c DP 0 (PR.init 15) t n∧t.at_≤c.data.length∧match iS c.data with
  |none=>(t.rest c).code≠0
  |some m=>(t.rest c).code=0∧ ∃ns,ns.length=4∧t.stack=[.nd 0 false [] [aie m ns]]:=by
 have w: ∀(a l p:Nat) (st:List PT),a≤c.data.length→l≤c.data.length→p+1≤c.tokens→st.length≤c.depth→Wg c a l p st:=fun _ _ _ _ a b c d=>⟨a,b,c,d⟩
 have bad: ∀{t:PR},t.code≠0→(t.rest c).code≠0:=fun h=>by
  unfold PR.rest;rw [if_neg (fun cc=>h cc.1)];exact h
 obtain ⟨v0,hv0⟩: ∃v,v=be2 (c.data.drop 0):=⟨_,rfl⟩;have u0:v0<18446744073709551616:=by rw [hv0];exact Cv (jI hb _) (by decide)
 obtain ⟨v1,hv1⟩: ∃v,v=be2 (c.data.drop 2):=⟨_,rfl⟩;have u1:v1<18446744073709551616:=by rw [hv1];exact Cv (jI hb _) (by decide)
 obtain ⟨v2,hv2⟩: ∃v,v=be2 (c.data.drop 4):=⟨_,rfl⟩;have u2:v2<18446744073709551616:=by rw [hv2];exact Cv (jI hb _) (by decide)
 obtain ⟨o,hv3⟩: ∃v,v=be2 (c.data.drop 6):=⟨_,rfl⟩;have u3:o<18446744073709551616:=by rw [hv3];exact Cv (jI hb _) (by decide)
 obtain ⟨u,hv4⟩: ∃v,v=be2 (c.data.drop 8):=⟨_,rfl⟩;have u4:u<18446744073709551616:=by rw [hv4];exact Cv (jI hb _) (by decide)
 obtain ⟨v5,hv5⟩: ∃v,v=be2 (c.data.drop 10):=⟨_,rfl⟩;have u5:v5<18446744073709551616:=by rw [hv5];exact Cv (jI hb _) (by decide)
 have s0: ∀x∈List.replicate 15 0,x<18446744073709551616:=fun x hx=>by rw [(List.mem_replicate.1 hx).2];decide
 have s1: ∀x∈((List.replicate 15 0).set 0 v0),x<18446744073709551616:=vL s0 u0;have s2: ∀x∈(((List.replicate 15 0).set 0 v0).set 1 v1),x<18446744073709551616:=vL s1 u1;have s3: ∀x∈((((List.replicate 15 0).set 0 v0).set 1 v1).set 2 v2),x<18446744073709551616:=vL s2 u2;have s4: ∀x∈(((((List.replicate 15 0).set 0 v0).set 1 v1).set 2 v2).set 3 o),x<18446744073709551616:=vL s3 u3;have s5: ∀x∈((((((List.replicate 15 0).set 0 v0).set 1 v1).set 2 v2).set 3 o).set 4 u),x<18446744073709551616:=vL s4 u4;have s6: ∀x∈(((((((List.replicate 15 0).set 0 v0).set 1 v1).set 2 v2).set 3 o).set 4 u).set 5 v5),x<18446744073709551616:=vL s5 u5;have p0: ∀{t n},bF c DP 1 (PR.mk0 0 0 1 (List.replicate 15 0) (.nd 0 false [] []::[.nd 0 false [] []]) [] []) t n→bF c DP 0 (PR.init 15) t (n+1):=fun r=>qQ (q:=⟨1,0,0,false,0,0,0,0,[],[]⟩) O (w 0 0 0 _ (Cm _) (Cm _) (by omega) (by show 1≤_;omega)) rfl rfl r
 have p1:2≤c.data.length→ ∀{t n},bF c DP 2 (PR.mk0 2 0 2 ((List.replicate 15 0).set 0 v0) (.nd 0 false [] [lf v0]::[.nd 0 false [] []]) [] []) t n→bF c DP 0 (PR.init 15) t (n+2):=fun hl {t n} r=>by
  rw [hv0] at r;exact p0 (iN (i:=1) (s:=0) O hb (w 0 0 1 _ (by omega) (by omega) (by omega) (by show 2≤_;omega)) rfl (by decide) (by simp) (by simp) hl (by simpa using r))
 have p2:4≤c.data.length→ ∀{t n},bF c DP 3 (PR.mk0 4 2 3 (((List.replicate 15 0).set 0 v0).set 1 v1) (.nd 0 false [] [lf v0,lf v1]::[.nd 0 false [] []]) [] []) t n→bF c DP 0 (PR.init 15) t (n+3):=fun hl {t n} r=>by
  rw [hv1] at r;exact p1 (by omega) (iN (i:=2) (s:=1) O hb (w 2 0 2 _ (by omega) (by omega) (by omega) (by show 2≤_;omega)) rfl (by decide) (by simp) (by simp) hl (by simpa using r))
 have p3:6≤c.data.length→ ∀{t n},bF c DP 4 (PR.mk0 6 4 4 ((((List.replicate 15 0).set 0 v0).set 1 v1).set 2 v2) (.nd 0 false [] [lf v0,lf v1,lf v2]::[.nd 0 false [] []]) [] []) t n→bF c DP 0 (PR.init 15) t (n+4):=fun hl {t n} r=>by
  rw [hv2] at r;exact p2 (by omega) (iN (i:=3) (s:=2) O hb (w 4 2 3 _ (by omega) (by omega) (by omega) (by show 2≤_;omega)) rfl (by decide) (by simp) (by simp) hl (by simpa using r))
 have p4:8≤c.data.length→ ∀{t n},bF c DP 5 (PR.mk0 8 6 5 (((((List.replicate 15 0).set 0 v0).set 1 v1).set 2 v2).set 3 o) (.nd 0 false [] [lf v0,lf v1,lf v2,lf o]::[.nd 0 false [] []]) [] []) t n→bF c DP 0 (PR.init 15) t (n+5):=fun hl {t n} r=>by
  rw [hv3] at r;exact p3 (by omega) (iN (i:=4) (s:=3) O hb (w 6 4 4 _ (by omega) (by omega) (by omega) (by show 2≤_;omega)) rfl (by decide) (by simp) (by simp) hl (by simpa using r))
 have p5:10≤c.data.length→ ∀{t n},bF c DP 6 (PR.mk0 10 8 6 ((((((List.replicate 15 0).set 0 v0).set 1 v1).set 2 v2).set 3 o).set 4 u) (.nd 0 false [] [lf v0,lf v1,lf v2,lf o,lf u]::[.nd 0 false [] []]) [] []) t n→bF c DP 0 (PR.init 15) t (n+6):=fun hl {t n} r=>by
  rw [hv4] at r;exact p4 (by omega) (iN (i:=5) (s:=4) O hb (w 8 6 5 _ (by omega) (by omega) (by omega) (by show 2≤_;omega)) rfl (by decide) (by simp) (by simp) hl (by simpa using r))
 have p6:12≤c.data.length→ ∀{t n},bF c DP 7 (PR.mk0 12 10 7 (((((((List.replicate 15 0).set 0 v0).set 1 v1).set 2 v2).set 3 o).set 4 u).set 5 v5) (.nd 0 false [] [lf v0,lf v1,lf v2,lf o,lf u,lf v5]::[.nd 0 false [] []]) [] []) t n→bF c DP 0 (PR.init 15) t (n+7):=fun hl {t n} r=>by
  rw [hv5] at r;exact p5 (by omega) (iN (i:=6) (s:=5) O hb (w 10 8 6 _ (by omega) (by omega) (by omega) (by show 2≤_;omega)) rfl (by decide) (by simp) (by simp) hl (by simpa using r))
 unfold iS
 by_cases hl:c.data.length<12
 ·rw [if_pos hl]
  by_cases q5:10≤c.data.length
  ·obtain ⟨t,r,b1,b2⟩:=dj (a:=10) (l:=8) (p:=6) (sl:=((((((List.replicate 15 0).set 0 v0).set 1 v1).set 2 v2).set 3 o).set 4 u)) (tk:=[lf v0,lf v1,lf v2,lf o,lf u]) (tn:=0) (R:=[.nd 0 false [] []]) (ct:=[]) (cl:=[]) (i:=6) (s:=5) O (w 10 8 6 _ (by omega) (by omega) (by omega) (by show 2≤_;omega)) rfl (by decide) (by simp) (by simp) (by omega)
   exact ⟨t,_,by omega,p5 (by omega) r,b2,bad b1⟩
  by_cases q4:8≤c.data.length
  ·obtain ⟨t,r,b1,b2⟩:=dj (a:=8) (l:=6) (p:=5) (sl:=(((((List.replicate 15 0).set 0 v0).set 1 v1).set 2 v2).set 3 o)) (tk:=[lf v0,lf v1,lf v2,lf o]) (tn:=0) (R:=[.nd 0 false [] []]) (ct:=[]) (cl:=[]) (i:=5) (s:=4) O (w 8 6 5 _ (by omega) (by omega) (by omega) (by show 2≤_;omega)) rfl (by decide) (by simp) (by simp) (by omega)
   exact ⟨t,_,by omega,p4 (by omega) r,b2,bad b1⟩
  by_cases q3:6≤c.data.length
  ·obtain ⟨t,r,b1,b2⟩:=dj (a:=6) (l:=4) (p:=4) (sl:=((((List.replicate 15 0).set 0 v0).set 1 v1).set 2 v2)) (tk:=[lf v0,lf v1,lf v2]) (tn:=0) (R:=[.nd 0 false [] []]) (ct:=[]) (cl:=[]) (i:=4) (s:=3) O (w 6 4 4 _ (by omega) (by omega) (by omega) (by show 2≤_;omega)) rfl (by decide) (by simp) (by simp) (by omega)
   exact ⟨t,_,by omega,p3 (by omega) r,b2,bad b1⟩
  by_cases q2:4≤c.data.length
  ·obtain ⟨t,r,b1,b2⟩:=dj (a:=4) (l:=2) (p:=3) (sl:=(((List.replicate 15 0).set 0 v0).set 1 v1)) (tk:=[lf v0,lf v1]) (tn:=0) (R:=[.nd 0 false [] []]) (ct:=[]) (cl:=[]) (i:=3) (s:=2) O (w 4 2 3 _ (by omega) (by omega) (by omega) (by show 2≤_;omega)) rfl (by decide) (by simp) (by simp) (by omega)
   exact ⟨t,_,by omega,p2 (by omega) r,b2,bad b1⟩
  by_cases q1:2≤c.data.length
  ·obtain ⟨t,r,b1,b2⟩:=dj (a:=2) (l:=0) (p:=2) (sl:=((List.replicate 15 0).set 0 v0)) (tk:=[lf v0]) (tn:=0) (R:=[.nd 0 false [] []]) (ct:=[]) (cl:=[]) (i:=2) (s:=1) O (w 2 0 2 _ (by omega) (by omega) (by omega) (by show 2≤_;omega)) rfl (by decide) (by simp) (by simp) (by omega)
   exact ⟨t,_,by omega,p1 (by omega) r,b2,bad b1⟩
  obtain ⟨t,r,b1,b2⟩:=dj (a:=0) (l:=0) (p:=1) (sl:=(List.replicate 15 0)) (tk:=[]) (tn:=0) (R:=[.nd 0 false [] []]) (ct:=[]) (cl:=[]) (i:=1) (s:=0) O (w 0 0 1 _ (by omega) (by omega) (by omega) (by show 2≤_;omega)) rfl (by decide) (by simp) (by simp) (by omega)
  exact ⟨t,_,by omega,p0 r,b2,bad b1⟩
 rw [if_neg hl];have P:=@p6 (by omega);rw [←hv2];have bG:(((((((List.replicate 15 0).set 0 v0).set 1 v1).set 2 v2).set 3 o).set 4 u).set 5 v5).length=15:=by simp
 obtain ⟨S0,hS0⟩: ∃S,S=(((((((List.replicate 15 0).set 0 v0).set 1 v1).set 2 v2).set 3 o).set 4 u).set 5 v5):=⟨_,rfl⟩;rw [←hS0] at P bG s6;have z2:S0[2]? =some v2:=by rw [hS0];simp [Ck]
 have z3:S0[3]? =some o:=by rw [hS0];simp [Ck]
 have z4:S0[4]? =some u:=by rw [hS0];simp [Ck]
 have z5:S0[5]? =some v5:=by rw [hS0];simp [Ck]
 have H0:=pQ (f:=eR) (g:=j7) (s:=2) (h:=7) (e:=45) (a:=12) (l:=10) (p:=7) (sl:=S0) (v:=v2) (tk:=[lf v0,lf v1,lf v2,lf o,lf u,lf v5]) (R:=[.nd 0 false [] []]) hlen O (apZ hlen O hb) rfl rfl rfl rfl rfl (by decide) z2 (by simp) (by show 1+40≤_;omega) (by omega) (by omega) (by omega) bG s6
 cases e0:bR eR v2 (c.data.drop (12)) with
 |none=>
  rw [e0] at H0;obtain ⟨t,k,hk,r,b1,b2⟩:=H0;exact ⟨t,_,by omega,P r,b2,bad b1⟩
 |some Lr0=>
  obtain ⟨L0,x0⟩:=Lr0;rw [e0] at H0;obtain ⟨m0,l0,q0,k0,sl0,er0,ma0,ml0,mq0,mk0,so0',G0⟩:=H0;have so0:=(SlO.rfl bG s6).trans so0';subst er0
  dsimp only
  rw [←hv3];have H1:=pQ (f:=fC) (g:=jy) (s:=3) (h:=12) (e:=51) (a:=12+m0) (l:=l0) (p:=q0) (sl:=sl0) (v:=o) (tk:=([lf v0,lf v1,lf v2,lf o,lf u,lf v5]++[jQ j7 L0])) (R:=[.nd 0 false [] []]) hlen O (adG hlen O hb) rfl rfl rfl rfl rfl (by decide) ((so0.old 3 (by decide)).trans z3) (by simp) (by show 1+40≤_;omega) (by omega) (by omega) (by omega) so0.len so0.small
  cases e1:bR fC o (c.data.drop (12+m0)) with
  |none=>
   rw [e1] at H1;obtain ⟨t,k,hk,r,b1,b2⟩:=H1;exact ⟨t,_,by omega,P (G0 _ _ r),b2,bad b1⟩
  |some Lr1=>
   obtain ⟨L1,x1⟩:=Lr1;rw [e1] at H1;obtain ⟨m1,l1,q1,k1,sl1,er1,ma1,ml1,mq1,mk1,so1',G1⟩:=H1;have so1:=so0.trans so1';subst er1
   dsimp only
   rw [←hv4];have H2:=pQ (f:=fC) (g:=jy) (s:=4) (h:=17) (e:=51) (a:=12+m0+m1) (l:=l1) (p:=q1) (sl:=sl1) (v:=u) (tk:=(([lf v0,lf v1,lf v2,lf o,lf u,lf v5]++[jQ j7 L0])++[jQ jy L1])) (R:=[.nd 0 false [] []]) hlen O (adG hlen O hb) rfl rfl rfl rfl rfl (by decide) ((so1.old 4 (by decide)).trans z4) (by simp) (by show 1+40≤_;omega) (by omega) (by omega) (by omega) so1.len so1.small
   cases e2:bR fC u (c.data.drop (12+m0+m1)) with
   |none=>
    rw [e2] at H2;obtain ⟨t,k,hk,r,b1,b2⟩:=H2;exact ⟨t,_,by omega,P (G0 _ _ (G1 _ _ r)),b2,bad b1⟩
   |some Lr2=>
    obtain ⟨L2,x2⟩:=Lr2;rw [e2] at H2;obtain ⟨m2,l2,q2,k2,sl2,er2,ma2,ml2,mq2,mk2,so2',G2⟩:=H2;have so2:=so1.trans so2';subst er2
    dsimp only
    rw [←hv5];have H3:=pQ (f:=fC) (g:=jy) (s:=5) (h:=22) (e:=51) (a:=12+m0+m1+m2) (l:=l2) (p:=q2) (sl:=sl2) (v:=v5) (tk:=((([lf v0,lf v1,lf v2,lf o,lf u,lf v5]++[jQ j7 L0])++[jQ jy L1])++[jQ jy L2])) (R:=[.nd 0 false [] []]) hlen O (adG hlen O hb) rfl rfl rfl rfl rfl (by decide) ((so2.old 5 (by decide)).trans z5) (by simp) (by show 1+40≤_;omega) (by omega) (by omega) (by omega) so2.len so2.small
    cases e3:bR fC v5 (c.data.drop (12+m0+m1+m2)) with
    |none=>
     rw [e3] at H3;obtain ⟨t,k,hk,r,b1,b2⟩:=H3;exact ⟨t,_,by omega,P (G0 _ _ (G1 _ _ (G2 _ _ r))),b2,bad b1⟩
    |some Lr3=>
     obtain ⟨L3,x3⟩:=Lr3;rw [e3] at H3;obtain ⟨m3,l3,q3,k3,sl3,er3,ma3,ml3,mq3,mk3,so3',G3⟩:=H3;have so3:=so2.trans so3';subst er3
     dsimp only
     have R:=P (G0 _ _ (G1 _ _ (G2 _ _ (G3 _ _ (fT (q:=⟨2,0,0,false,0,0,0,0,[],[]⟩) O (w _ _ _ _ (by omega) (by omega) (by omega) (by show 2≤_;omega)) rfl rfl (dG (by simp)) (avi (q:=⟨20,0,0,false,0,0,0,0,[],[]⟩) O (w _ _ _ _ (by omega) (by omega) (by omega) (by show 1≤_;omega)) rfl rfl))))))
     refine ⟨_,_,?_,R,by show 12+m0+m1+m2+m3≤_;omega,?_⟩
     ·omega
     by_cases hx:12+m0+m1+m2+m3=c.data.length
     ·rw [if_pos (Cs.2 (by omega))]
      refine ⟨?_,[v2,o,u,v5],rfl,?_⟩
      ·unfold PR.rest
       rw [if_neg (fun cc=>by have:=cc.2;show False;have h2:12+m0+m1+m2+m3<c.data.length:=this;omega)];rfl
      ·rw [hv0,hv1];rfl
     ·rw [if_neg (fun cc=>hx (by have:=Cs.1 cc;omega))]
      unfold PR.rest;rw [if_pos ⟨rfl,by show 12+m0+m1+m2+m3<_;omega⟩,gu rfl];show (216:Nat)≠0;decide
end
end Go.Proofs.YtemmgalfdmnkoaaGreatDoor
