/- Rows that code owns, in symbolic runs: elements of several cells each, lengthened and shortened; trees in memory. -/
import Derived.Test.YteapfopaiocpeaaGreatDoorDk
namespace Go.Proofs.YteapfopaiocpeaaGreatDoor
set_option linter.unusedSimpArgs false
set_option linter.unusedVariables false
set_option linter.unnecessarySimpa false
section
variable {h:AH} {κ:Ka} {S S':Nat→Prop} {z:Nat} {v:AV} {rows:List (List AV)} {b cap y:Nat} {e:Bool} {junk:List AV}
theorem jM: ∀{rows:List (List AV)},(∀r∈rows,r.length=z)→rows.flatten.length=rows.length*z
 |[],_=>by simp
 |r::rows,hr=>by
  rw [List.flatten_cons,List.length_append,jM fun x hx=>hr x (List.mem_cons_of_mem _ hx),hr r (List.mem_cons_self ..),List.length_cons,Nat.succ_mul];omega
theorem j7 {α:Type} {l:List α} {i:Nat} {a:α} (e:l[i]? =some a): ∃A B,l=A++a::B∧A.length=i:=by
 obtain ⟨hi,rfl⟩:=List.getElem?_eq_some_iff.1 e
 exact ⟨l.take i,l.drop (i+1),by rw [List.getElem_cons_drop,List.take_append_drop],by rw [List.length_take];omega⟩
theorem mA {α:Type} (A B:List α) (a c:α):(A++a::B).set A.length c=A++c::B:=by
 rw [List.set_append_right _ _ (Nat.le_refl _),Nat.sub_self];rfl
structure OwB (h:AH) (z:Nat) (v:AV) (rows:List (List AV)) (b cap:Nat) (e:Bool) (junk:List AV) (y:Nat):Prop where
 val:v= .slo b 0 rows.length cap z e
 blk:ae h b=some (.cells (rows.flatten++junk) y)
 fit:rows.length≤cap
 len:rows.flatten.length+junk.length=cap*z
theorem OwB.lt (o:OwB h z v rows b cap e junk y):b<h.length:=aO o.blk
theorem OwB.len2 (o:OwB h z v rows b cap e junk y):(rows.flatten++junk).length=cap*z:=by rw [List.length_append,o.len]
def OwR (h:AH) (S:Nat→Prop) (z:Nat) (v:AV) (rows:List (List AV)):Prop:=
 (∀r∈rows,r.length=z)∧((rows=[]∧v= .nils)∨ ∃b cap e junk y,S b∧OwB h z v rows b cap e junk y)
theorem OwR.nil:OwR h S z .nils []:=⟨by simp,.inl ⟨rfl,rfl⟩⟩
theorem OwR.mono {h':AH} (r:OwR h S z v rows) (m: ∀b,b<h.length→S b→S' b∧ae h' b=ae h b):OwR h' S' z v rows:=by
 obtain ⟨hr,r⟩:=r
 refine ⟨hr,?_⟩
 rcases r with r|⟨b,cap,e,junk,y,hs,o⟩
 ·exact .inl r
 ·obtain ⟨m1,m2⟩:=m b o.lt hs
  exact .inr ⟨b,cap,e,junk,y,m1,o.val,by rw [m2];exact o.blk,o.fit,o.len⟩
theorem OwR.bH (r:OwR h S z v rows) (h':AH) (κ:Ka):bH v h' κ=κ (.int 9223372036854775807 (rows.length:Int)) h':=by
 obtain ⟨_,⟨rfl,rfl⟩|⟨b,cap,e,junk,y,_,⟨rfl,_,_,_⟩⟩⟩:=r<;>rfl
theorem OwR.plain (r:OwR h S z v rows):v.plain=true:=by
 obtain ⟨_,⟨rfl,rfl⟩|⟨b,cap,e,junk,y,_,⟨rfl,_,_,_⟩⟩⟩:=r<;>rfl
theorem OwR.vlt (r:OwR h S z v rows):v.lt (aj h)=true:=by
 obtain ⟨_,⟨rfl,rfl⟩|⟨b,cap,e,junk,y,_,o⟩⟩:=r
 ·rfl
 ·have:=o.lt
  rw [o.val,oG,ah];exact decide_eq_true this
structure ElAt (h:AH) (z:Nat) (v:AV) (i:Nat) (q:List AV) (b:Nat):Prop where
 lt:b<h.length
 idx: ∀(k:Nat) (h':AH) (κ:Ka),bT z v (.int k (i:Int)) h' κ=κ (.pto b (i*z)) h'
 ldG: ∀κ:Ka,aQ z (.pto b (i*z)) h κ=κ (.agg q) h
 ld1: ∀(j:Nat) (c:AV),q[j]? =some c→ ∀κ:Ka,ar (.pto b (i*z+j)) h κ=κ c h
theorem iV (A B:List (List AV)) (q junk:List AV):(A++q::B).flatten++junk=A.flatten++(q++(B.flatten++junk)):=by simp
theorem OwB.el (o:OwB h z v rows b cap e junk y) (hr: ∀r∈rows,r.length=z) {i:Nat} {q:List AV} (hq:rows[i]? =some q):ElAt h z v i q b:=by
 have hlt:=o.lt
 obtain ⟨rfl,hb,hcap,hlen⟩:=o
 have hi:i<rows.length:=(List.getElem?_eq_some_iff.1 hq).1
 have hql:q.length=z:=hr q (List.mem_of_getElem? hq)
 obtain ⟨A,B,rfl,hA⟩:=j7 hq
 have hAl:A.flatten.length=i*z:=by rw [jM fun r h=>hr r (by simp [h]),hA]
 refine ⟨hlt,fun k h' κ=>?_,fun κ=>?_,fun j c hj κ=>?_⟩
 ·rw [rM,bf hi,Nat.zero_add]
 ·rw [kT,hb,aT]
  show bq (decide (i*z+z≤((A++q::B).flatten++junk).length)) (κ (.agg ((((A++q::B).flatten++junk).drop (i*z)).take z)) h) none=_
  rw [iV,←hAl,List.drop_left,←hql,List.take_left,bf (by simp)]
 ·have hjz:j<q.length:=(List.getElem?_eq_some_iff.1 hj).1
  have:((A++q::B).flatten++junk)[i*z+j]? =some c:=by
   rw [iV,←hAl,List.getElem?_append_right (by omega),Nat.add_sub_cancel_left,List.getElem?_append_left hjz,hj]
  rw [jS,hb,aT]
  show au ((A++q::B).flatten++junk)[i*z+j]? (fun v=>κ v h)=_
  rw [this];rfl
theorem OwR.el (r:OwR h S z v rows) {i:Nat} {q:List AV} (hq:rows[i]? =some q): ∃b,S b∧ElAt h z v i q b:=by
 obtain ⟨hr,⟨rfl,rfl⟩|⟨b,cap,e,junk,y,hs,o⟩⟩:=r
 ·simp at hq
 ·exact ⟨b,hs,o.el hr hq⟩
theorem OwB.stG (o:OwB h z v rows b cap e junk y) (hr: ∀r∈rows,r.length=z) {i:Nat} {q q':List AV} (hq:rows[i]? =some q) (hl:q'.length=z) (hp:aR q'=true):
 (∀κ:Ka,aK z (.pto b (i*z)) (.agg q') h κ=κ (.tup []) (h.set b (some (.cells ((rows.set i q').flatten++junk) y))))∧OwB (h.set b (some (.cells ((rows.set i q').flatten++junk) y))) z v (rows.set i q') b cap e junk y:=by
 have hlt:=o.lt
 obtain ⟨rfl,hb,hcap,hlen⟩:=o
 have hql:q.length=z:=hr q (List.mem_of_getElem? hq)
 obtain ⟨A,B,rfl,hA⟩:=j7 hq
 have hAl:A.flatten.length=i*z:=by rw [jM fun r h=>hr r (by simp [h]),hA]
 subst hA
 rw [mA]
 constructor
 ·intro κ
  rw [pQ,decide_eq_true hl,hp]
  show au (ae h b) _=_
  rw [hb,aT]
  show bq (decide (A.length*z+q'.length≤((A++q::B).flatten++junk).length)) (κ (.tup []) (h.set b (some (.cells (((A++q::B).flatten++junk).take (A.length*z)++(q'++((A++q::B).flatten++junk).drop (A.length*z+q'.length))) y)))) none=_
  rw [iV,iV,←hAl,List.take_left,hl,←hql,←List.drop_drop,List.drop_left,List.drop_left,bf (by simp)]
 ·refine ⟨by simp,az hlt _,by simpa using hcap,?_⟩
  rw [←hlen];simp [hl,hql]
theorem OwB.st1 (o:OwB h z v rows b cap e junk y) (hr: ∀r∈rows,r.length=z) {i j:Nat} {q:List AV} {c:AV} (hq:rows[i]? =some q) (hj:j<z) (hp:c.plain=true):
 (∀κ:Ka,cB (.pto b (i*z+j)) c h κ=κ (.tup []) (h.set b (some (.cells ((rows.set i (q.set j c)).flatten++junk) y))))∧OwB (h.set b (some (.cells ((rows.set i (q.set j c)).flatten++junk) y))) z v (rows.set i (q.set j c)) b cap e junk y:=by
 have hlt:=o.lt
 obtain ⟨rfl,hb,hcap,hlen⟩:=o
 have hql:q.length=z:=hr q (List.mem_of_getElem? hq)
 obtain ⟨A,B,rfl,hA⟩:=j7 hq
 have hAl:A.flatten.length=i*z:=by rw [jM fun r h=>hr r (by simp [h]),hA]
 subst hA
 rw [mA]
 constructor
 ·intro κ
  rw [uT,hp]
  show au (ae h b) _=_
  rw [hb,aT]
  show au ((A++q::B).flatten++junk)[A.length*z+j]? (fun _=>κ (.tup []) (h.set b (some (.cells (((A++q::B).flatten++junk).set (A.length*z+j) c) y))))=_
  have:((A++q::B).flatten++junk)[A.length*z+j]? =some q[j]:=by
   rw [iV,←hAl,List.getElem?_append_right (by omega),Nat.add_sub_cancel_left,List.getElem?_append_left (by omega)];exact List.getElem?_eq_getElem _
  rw [this,aT,iV,iV,←hAl,List.set_append_right _ _ (by omega),Nat.add_sub_cancel_left,List.set_append_left _ _ (by omega)]
 ·refine ⟨by simp,az hlt _,by simpa using hcap,?_⟩
  rw [←hlen];simp
theorem appZ (ty:Nat) {by_:Nat} (hby:by_≤1000) (o:OwB h z v rows b cap e junk y) (hr: ∀r∈rows,r.length=z) {x:AV} {q:List AV} (hx1:lO x=some 1) (hx2:cQ h z 1 x=some q) (hq:q.length=z) (hp:aR q=true) (hl:rows.length≤100000):
 ∃v' h' b' cap' e' junk' y',(∀κ:Ka,eH ty z by_ v x h κ=κ v' h')∧OwB h' z v' (rows++[q]) b' cap' e' junk' y'∧(b'=b∨b'=h.length)∧h.length≤h'.length∧(∀i,i≠b→i<h.length→ae h' i=ae h i)∧
  (rows.length=cap→b'=h.length∧junk'=[]∧cap'=rows.length+1∧e'=false∧h'.length=h.length+1):=by
 have hlt:=o.lt
 have hlen2:=o.len2
 have hrl:=jM hr
 obtain ⟨rfl,hb,hcap,hlen⟩:=o
 have step: ∀κ:Ka,eH ty z by_ (.slo b 0 rows.length cap z e) x h κ=apC ty z by_ 1 q h κ b 0 rows.length cap e (rows.flatten++junk) y:=by
  intro κ
  unfold eH
  rw [hx1,aT,hx2,aT,hp,jr,ah,hq,show Nat.mul 1 z=z from Nat.one_mul _,decide_eq_true rfl]
  show bq (Nat.beq z z) (dr h b (apC ty z by_ 1 q h κ b 0 rows.length cap e) _) none=_
  rw [jr,decide_eq_true rfl]
  show dr h b _ _=_
  unfold dr
  rw [hb];rfl
 by_cases hroom:rows.length+1≤cap
 ·have hnz:rows.length*z+z≤cap*z:=by rw [←Nat.succ_mul];exact Nat.mul_le_mul_right _ hroom
  refine ⟨.slo b 0 (rows.length+1) cap z e,h.set b (some (.cells (rows.flatten++(q++junk.drop z)) y)),b,cap,e,junk.drop z,y,fun κ=>?_,⟨by simp,?_,by simpa using hroom,?_⟩,.inl rfl,by simp,fun i hi hl=>by rw [ai (by omega)],fun c=>by omega⟩
  ·rw [step]
   unfold apC
   rw [bL,bf (show Nat.add rows.length 1≤cap from hroom),bL,ah,hlen2,bf (by show 0+(rows.length+1)*z≤cap*z;rw [Nat.succ_mul];omega)]
   unfold fZ
   rw [cn,aM,ba,aP,aP,ah,hq]
   show κ (.slo b 0 (rows.length+1) cap z e) (h.set b (some (.cells ((rows.flatten++junk).take (0+rows.length*z)++(q++(rows.flatten++junk).drop (0+rows.length*z+z))) y)))=_
   rw [Nat.zero_add,←hrl,List.take_left,←List.drop_drop,List.drop_left]
  ·rw [az hlt];simp
  ·simp only [List.flatten_append,List.flatten_cons,List.flatten_nil,List.append_nil,List.length_append,List.length_drop,hq]
   omega
 ·have hlb:(bq e h (h.set b none)).length=h.length:=by cases e<;>simp [bq]
  refine ⟨.slo h.length 0 (rows.length+1) (rows.length+1) z false,(bq e h (h.set b none))++[some (.cells (rows.flatten++q) (bq (Nat.beq y ty) ty 0))],h.length,rows.length+1,false,[],bq (Nat.beq y ty) ty 0,fun κ=>?_,⟨by simp,?_,by simp,?_⟩,.inr rfl,by rw [List.length_append,hlb];omega,fun i hi hl=>?_,fun _=>⟨rfl,rfl,rfl,rfl,by rw [List.length_append,hlb];rfl⟩⟩
  ·rw [step]
   unfold apC
   rw [bL,gy (show ¬Nat.add rows.length 1≤cap from hroom)]
   have r1:and (and (jb by_ (Nat.add rows.length 1)) (Nat.ble (Nat.add 0 (Nat.mul rows.length z)) (aj (rows.flatten++junk)))) (or e (Nat.beq 0 0))=true:=by
    unfold jb
    rw [bL,bL,bL,ah,hlen2,decide_eq_true (by show (rows.length+1)*by_≤140737488355328;exact Nat.le_trans (Nat.mul_le_mul (show rows.length+1≤100001 by omega) hby) (by decide)),decide_eq_true (by show rows.length+1≤140737488355328;omega),decide_eq_true (by show 0+rows.length*z≤cap*z;rw [Nat.zero_add];exact Nat.mul_le_mul_right _ hcap)]
    cases e<;>rfl
   rw [r1,aw,ah,aP,aP,cn,aM,ba]
   show κ (.slo h.length 0 (rows.length+1) (rows.length+1) z false) (bq e h (h.set b none)++[some (.cells (List.take (rows.length*z) (List.drop 0 (rows.flatten++junk))++q) (bq (Nat.beq y ty) ty 0))])=_
   rw [List.drop_zero,←hrl,List.take_left]
  ·rw [←hlb,aI];simp
  ·simp only [List.flatten_append,List.flatten_cons,List.flatten_nil,List.append_nil,List.length_append,hq,hrl];simp [Nat.succ_mul]
  ·rw [aq (by rw [hlb];exact hl)]
   cases e with
   |true=>rfl
   |false=>show ae (h.set b none) i=_;rw [ai (by omega)]
theorem apZ (ty:Nat) {by_:Nat} (hby:by_≤1000) (hz:z≤64) {x:AV} {q:List AV} (hx1:lO x=some 1) (hx2:cQ h z 1 x=some q) (hq:q.length=z) (hp:aR q=true):
 (∀κ:Ka,eH ty z by_ .nils x h κ=κ (.slo h.length 0 1 1 z false) (h++[some (.cells q ty)]))∧OwB (h++[some (.cells q ty)]) z (.slo h.length 0 1 1 z false) [q] h.length 1 false [] ty:=by
 refine ⟨fun κ=>?_,rfl,?_,by simp,by simp [hq]⟩
 ·unfold eH
  rw [hx1,aT,hx2,aT,hp,jr,ah,hq,show Nat.mul 1 z=z from Nat.one_mul _,decide_eq_true rfl]
  show uQ ty z by_ 1 q .nils h κ=_
  unfold uQ
  have:jb by_ 1=true:=by
   unfold jb
   rw [bL,bL,decide_eq_true (show Nat.mul 1 by_≤140737488355328 by show 1*by_≤_;omega)];rfl
  rw [this]
  show κ (.slo (aj h) 0 1 1 z false) (aJ h [some (sK z 1 q ty)])=_
  unfold sK
  rw [vS,decide_eq_false (by omega),ah,aP];rfl
 ·rw [aI];simp
theorem OwB.cut (o:OwB h z v rows b cap e junk y) (hr: ∀r∈rows,r.length=z) (h0:0<cap) {m:Nat} (hm:m≤rows.length) (k:Nat):
 ∃v',(∀(h':AH) (κ:Ka),slS z v none (some (.int k (m:Int))) none h' κ=κ v' h')∧OwB h z v' (rows.take m) b cap e ((rows.drop m).flatten++junk) y:=by
 obtain ⟨rfl,hb,hcap,hlen⟩:=o
 refine ⟨.slo b 0 m cap z e,fun h' κ=>?_,by rw [List.length_take,Nat.min_eq_left hm],?_,by rw [List.length_take];omega,?_⟩
 ·show mO rows.length cap none (some (.int k (Int.ofNat m))) none (fun l u mm=>bq (Nat.beq z z) (bq (Nat.beq l mm) (κ .sle h') (κ (.slo b (Nat.add 0 (Nat.mul l z)) (Nat.sub u l) (Nat.sub mm l) z (or e false)) h')) none)=_
  show bq (and (and (Nat.ble 0 m) (Nat.ble m cap)) (and (Nat.ble cap cap) (or (not false) true))) (bq (Nat.beq z z) (bq (Nat.beq 0 cap) (κ .sle h') (κ (.slo b (Nat.add 0 (Nat.mul 0 z)) (Nat.sub m 0) (Nat.sub cap 0) z (or e false)) h')) none) none=_
  rw [bL,bL,bL,jr,jr,decide_eq_true (Nat.zero_le _),decide_eq_true (show m≤cap by omega),decide_eq_true (Nat.le_refl _),decide_eq_true rfl,decide_eq_false (show ¬0=cap by omega)]
  show κ (.slo b (Nat.add 0 (Nat.mul 0 z)) (Nat.sub m 0) (Nat.sub cap 0) z (or e false)) h'=_
  rw [show Nat.mul 0 z=0 from Nat.zero_mul _,Bool.or_false];rfl
 ·rw [hb,←List.append_assoc,←List.flatten_append,List.take_append_drop]
 ·rw [←hlen,List.length_append,←Nat.add_assoc,←List.length_append,←List.flatten_append,List.take_append_drop]
theorem OwR.cut (r:OwR h S z v rows) (hz:0<z) (hne:rows≠[]) {m:Nat} (hm:m≤rows.length) (k:Nat):
 ∃v',(∀(h':AH) (κ:Ka),slS z v none (some (.int k (m:Int))) none h' κ=κ v' h')∧OwR h S z v' (rows.take m):=by
 obtain ⟨hr,⟨rfl,_⟩|⟨b,cap,e,junk,y,hs,o⟩⟩:=r
 ·exact absurd rfl hne
 ·have h0:0<cap:=by
   have:=List.length_pos_iff.2 hne
   have:=o.fit;omega
  obtain ⟨v',e1,o'⟩:=o.cut hr h0 hm k
  exact ⟨v',e1,fun r h=>hr r (List.mem_of_mem_take h),.inr ⟨b,cap,e,_,y,hs,o'⟩⟩
theorem OwR.app (ty:Nat) {by_:Nat} (hby:by_≤1000) (hz:z≤64) (r:OwR h S z v rows) {x:AV} {q:List AV} (hx1:lO x=some 1) (hx2:cQ h z 1 x=some q) (hq:q.length=z) (hp:aR q=true) (hl:rows.length≤100000):
 ∃v' h',(∀κ:Ka,eH ty z by_ v x h κ=κ v' h')∧OwR h' (fun i=>S i∨i=h.length) z v' (rows++[q])∧h.length≤h'.length∧(∀i,¬S i→i<h.length→ae h' i=ae h i):=by
 obtain ⟨hr,⟨rfl,rfl⟩|⟨b,cap,e,junk,y,hs,o⟩⟩:=r
 ·obtain ⟨e1,o⟩:=apZ (z:=z) ty hby hz hx1 hx2 hq hp
  exact ⟨_,_,e1,⟨by simpa using hq,.inr ⟨_,_,_,_,_,.inr rfl,o⟩⟩,by simp,fun i _ hi=>aq hi _⟩
 ·obtain ⟨v',h',b',cap',e',junk',y',e1,o',hb',hl',hf,_⟩:=appZ ty hby o hr hx1 hx2 hq hp hl
  refine ⟨v',h',e1,⟨fun r hm=>?_,.inr ⟨b',cap',e',junk',y',?_,o'⟩⟩,hl',fun i hi hlt=>hf i (fun c=>hi (c▸hs)) hlt⟩
  ·rcases List.mem_append.1 hm with hm|hm
   ·exact hr r hm
   ·obtain rfl:r=q:=by simpa using hm
    exact hq
  ·rcases hb' with rfl|rfl
   ·exact .inl hs
   ·exact .inr rfl
end
section
variable {h:AH} {S S':Nat→Prop} {v:AV} {cs:List AV}
def Ow1 (h:AH) (S:Nat→Prop) (v:AV) (cs:List AV):Prop:=
 (cs=[]∧v= .nils)∨ ∃b cap e junk y,S b∧v= .slo b 0 cs.length cap 1 e∧ae h b=some (.cells (cs++junk) y)∧cs.length+junk.length=cap
theorem sF: ∀cs:List AV,(cs.map fun c=>[c]).flatten=cs
 |[]=>rfl
 |c::cs=>by rw [List.map_cons,List.flatten_cons,sF cs];rfl
theorem ap0: ∀r∈cs.map fun c=>[c],r.length=1:=by
 intro r hr
 obtain ⟨c,_,rfl⟩:=List.mem_map.1 hr
 rfl
theorem Ow1.toR (o:Ow1 h S v cs):OwR h S 1 v (cs.map fun c=>[c]):=by
 refine ⟨ap0,?_⟩
 rcases o with ⟨rfl,rfl⟩|⟨b,cap,e,junk,y,hs,rfl,hb,hl⟩
 ·exact .inl ⟨rfl,rfl⟩
 ·exact .inr ⟨b,cap,e,junk,y,hs,by rw [List.length_map],by rw [sF];exact hb,by rw [List.length_map];omega,by rw [sF,hl,Nat.mul_one]⟩
theorem OwR.to1 (o:OwR h S 1 v (cs.map fun c=>[c])):Ow1 h S v cs:=by
 obtain ⟨_,⟨e,rfl⟩|⟨b,cap,e,junk,y,hs,o⟩⟩:=o
 ·exact .inl ⟨List.map_eq_nil_iff.1 e,rfl⟩
 ·refine .inr ⟨b,cap,e,junk,y,hs,by rw [o.val,List.length_map],by have:=o.blk;rw [sF] at this;exact this,?_⟩
  have:=o.len
  rw [sF,Nat.mul_one] at this;exact this
theorem Ow1.at (o:Ow1 h S v cs):dq h v cs:=by
 rcases o with ⟨rfl,rfl⟩|⟨b,cap,e,junk,y,hs,rfl,hb,hl⟩
 ·exact .inl ⟨rfl,.inl rfl⟩
 ·exact .inr (.inr ⟨b,0,cap,_,y,e,rfl,hb,by rw [List.drop_zero,List.take_left],by simp⟩)
theorem Ow1.mono {h':AH} (r:Ow1 h S v cs) (m: ∀b,b<h.length→S b→S' b∧ae h' b=ae h b):Ow1 h' S' v cs:=(r.toR.mono m).to1
theorem Ow1.plain (o:Ow1 h S v cs):v.plain=true:=o.at.plain
theorem Ow1.app (ty:Nat) {by_:Nat} (hby:by_≤1000) (r:Ow1 h S v cs) {x c:AV} (hx:dq h x [c]) (hp:c.plain=true) (hl:cs.length≤100000):
 ∃v' h',(∀κ:Ka,eH ty 1 by_ v x h κ=κ v' h')∧Ow1 h' (fun i=>S i∨i=h.length) v' (cs++[c])∧h.length≤h'.length∧(∀i,¬S i→i<h.length→ae h' i=ae h i):=by
 obtain ⟨v',h',e1,o,l,f⟩:=r.toR.app (z:=1) (q:=[c]) ty hby (by decide) hx.lO hx.elems rfl (by show and c.plain true=true;rw [hp];rfl) (by rw [List.length_map];exact hl)
 refine ⟨v',h',e1,OwR.to1 ?_,l,f⟩
 rw [List.map_append];exact o
theorem Ow1.set (r:Ow1 h S v cs) {i:Nat} {c:AV} (hc:cs[i]? =some c):
 ∃p,(∀(k:Nat) (h':AH) (κ:Ka),bT 1 v (.int k (i:Int)) h' κ=κ p h')∧p.lt (aj h)=true∧(∀κ:Ka,ar p h κ=κ c h)∧
  ∀c':AV,c'.plain=true→ ∃h',(∀κ:Ka,cB p c' h κ=κ (.tup []) h')∧Ow1 h' S v (cs.set i c')∧h'.length=h.length∧ ∀j,¬S j→ae h' j=ae h j:=by
 rcases r with ⟨rfl,rfl⟩|⟨b,cap,e,junk,y,hs,rfl,hb,hl⟩
 ·simp at hc
 ·have hi:i<cs.length:=(List.getElem?_eq_some_iff.1 hc).1
  have hj:(cs++junk)[i]? =some c:=by rw [List.getElem?_append_left hi];exact hc
  refine ⟨.pto b i,fun k h' κ=>?_,by rw [gH,ah];exact decide_eq_true (aO hb),fun κ=>?_,fun c' hp=>⟨h.set b (some (.cells (cs.set i c'++junk) y)),fun κ=>?_,.inr ⟨b,cap,e,junk,y,hs,by rw [List.length_set],by rw [az (aO hb)],by rw [List.length_set];exact hl⟩,by rw [List.length_set],fun j hj=>ai (fun cc:b=j=>hj (cc▸hs)) _⟩⟩
  ·rw [rM,bf hi,Nat.zero_add,Nat.mul_one]
  ·rw [jS,hb,aT]
   show au (cs++junk)[i]? (fun v=>κ v h)=_
   rw [hj];rfl
  ·rw [uT,hp,hb]
   show au (cs++junk)[i]? (fun _=>κ (.tup []) (h.set b (some (.cells ((cs++junk).set i c') y))))=_
   rw [hj,aT,List.set_append_left _ _ hi]
end
inductive PT where
 |nd (num:Nat) (blank:Bool) (data:List Nat) (kids:List PT)
def iD (h:AH) (S:Nat→Prop) (v:AV) (d:List Nat):Prop:=(d=[]∧v= .nils)∨(d≠[]∧ ∃b e y,v= .slo b 0 d.length d.length 1 e∧S b∧ae h b=some (.cells (aS d) y))
mutual
/-- Four cells are a tree, in blocks of such names. -/
def fK (h:AH) (S:Nat→Prop) (q:List AV):PT→Prop
 | .nd n b d ks=>∃dv kv,q=[.int 18446744073709551615 (n:Int),.bool b,dv,kv]∧iD h S dv d∧((ks=[]∧kv= .nils)∨ ∃kb e rows y,kv= .slo kb 0 ks.length ks.length 4 e∧S kb∧ae h kb=some (.cells rows.flatten y)∧cw h (fun b=>S b∧b<kb) rows ks)
def cw (h:AH) (S:Nat→Prop) (rows:List (List AV)):List PT→Prop
 |[]=>rows=[]
 |k::ks=>∃q r,rows=q::r∧fK h S q k∧cw h S r ks
end
theorem iD.mono {h h':AH} {S S':Nat→Prop} {v:AV} {d:List Nat} (m: ∀b,b<h.length→S b→S' b∧ae h' b=ae h b) (D:iD h S v d):iD h' S' v d:=by
 rcases D with D|⟨d0,b,e,y,e1,e2,e3⟩
 ·exact .inl D
 ·obtain ⟨m1,m2⟩:=m b (aO e3) e2
  exact .inr ⟨d0,b,e,y,e1,m1,by rw [m2];exact e3⟩
theorem iD.at {h:AH} {S:Nat→Prop} {v:AV} {d:List Nat} (D:iD h S v d):dq h v (aS d):=by
 rcases D with ⟨rfl,rfl⟩|⟨_,b,e,y,rfl,_,e3⟩
 ·exact .inl ⟨rfl,.inl rfl⟩
 ·refine .inr (.inr ⟨b,0,d.length,aS d,y,e,by rw [bW],e3,?_,by rw [bW];omega⟩)
  rw [List.drop_zero,List.take_length]
mutual
theorem fK.mono {h h':AH}: ∀(t:PT) {S S':Nat→Prop} {q:List AV},(∀b,b<h.length→S b→S' b∧ae h' b=ae h b)→fK h S q t→fK h' S' q t
 | .nd n b d ks,S,S',q,m,T=>by
   unfold fK at T ⊢
   obtain ⟨dv,kv,e1,e2,e3⟩:=T
   refine ⟨dv,kv,e1,e2.mono m,?_⟩
   rcases e3 with e3|⟨kb,e,rows,y,k1,k2,k3,k4⟩
   ·exact .inl e3
   ·obtain ⟨m1,m2⟩:=m kb (aO k3) k2
    exact .inr ⟨kb,e,rows,y,k1,m1,by rw [m2];exact k3,cw.mono ks (fun b hb hs=>⟨⟨(m b hb hs.1).1,hs.2⟩,(m b hb hs.1).2⟩) k4⟩
theorem cw.mono {h h':AH}: ∀(ks:List PT) {S S':Nat→Prop} {rows:List (List AV)},(∀b,b<h.length→S b→S' b∧ae h' b=ae h b)→cw h S rows ks→cw h' S' rows ks
 |[],S,S',rows,m,T=>by unfold cw at T ⊢;exact T
 |k::ks,S,S',rows,m,T=>by
  unfold cw at T ⊢
  obtain ⟨q,r,e,a,b⟩:=T
  exact ⟨q,r,e,fK.mono k m a,cw.mono ks m b⟩
end
theorem fK.four {h:AH} {S:Nat→Prop} {q:List AV} {t:PT} (T:fK h S q t):q.length=4∧aR q=true:=by
 cases t with
 |nd n b d ks=>
  unfold fK at T
  obtain ⟨dv,kv,rfl,e2,e3⟩:=T
  refine ⟨rfl,?_⟩
  have h1:dv.plain=true:=e2.at.plain
  have h2:kv.plain=true:=by
   rcases e3 with ⟨_,rfl⟩|⟨kb,e,rows,y,rfl,_⟩<;>rfl
  show and true (and true (and dv.plain (and kv.plain true)))=true
  rw [h1,h2];rfl
theorem cw.rows {h:AH} {S:Nat→Prop}: ∀{ks:List PT} {rows:List (List AV)},cw h S rows ks→rows.length=ks.length∧ ∀r∈rows,r.length=4
 |[],rows,T=>by unfold cw at T;subst T;simp
 |k::ks,rows,T=>by
  unfold cw at T
  obtain ⟨q,r,rfl,a,b⟩:=T
  have ih:=cw.rows b
  refine ⟨by simp [ih.1],fun x hx=>?_⟩
  rcases List.mem_cons.1 hx with rfl|hx
  ·exact a.four.1
  ·exact ih.2 x hx
theorem cw.app {h:AH} {S:Nat→Prop} {q:List AV} {t:PT} (a:fK h S q t): ∀{ks:List PT} {rows:List (List AV)},cw h S rows ks→cw h S (rows++[q]) (ks++[t])
 |[],rows,T=>by
  unfold cw at T;subst T
  show cw h S [q] [t]
  unfold cw
  exact ⟨q,[],rfl,a,by unfold cw;rfl⟩
 |k::ks,rows,T=>by
  unfold cw at T
  obtain ⟨p,r,rfl,c,d⟩:=T
  show cw h S (p::(r++[q])) (k::(ks++[t]))
  unfold cw
  exact ⟨p,_,rfl,c,cw.app a d⟩
theorem cw.get {h:AH} {S:Nat→Prop}: ∀{ks:List PT} {rows:List (List AV)} {i:Nat} {t:PT},cw h S rows ks→ks[i]? =some t→ ∃q,rows[i]? =some q∧fK h S q t
 |[],rows,i,t,T,e=>by simp at e
 |k::ks,rows,0,t,T,e=>by
  unfold cw at T
  obtain ⟨q,r,rfl,a,b⟩:=T
  obtain rfl:k=t:=by simpa using e
  exact ⟨q,rfl,a⟩
 |k::ks,rows,i+1,t,T,e=>by
  unfold cw at T
  obtain ⟨q,r,rfl,a,b⟩:=T
  obtain ⟨q',e1,e2⟩:=cw.get b (by simpa using e)
  exact ⟨q',by simpa using e1,e2⟩
end Go.Proofs.YteapfopaiocpeaaGreatDoor
