/- Each operation of the evaluator does what the model does. -/
import Derived.Test.YtemmgalfdmnkoaaGreatDoorMA
import Derived.Laws.CopyRow
import Derived.Laws.BytesArg
import Derived.RangeFuncSeq
namespace Go.Proofs.YtemmgalfdmnkoaaGreatDoor
set_option linter.unusedSimpArgs false
set_option linter.unusedVariables false
set_option linter.unnecessarySimpa false
section
variable {P:Program} {C:Cx} {ok:Nat→Prop} {w:World} {ρ:Rho} {h:AH} {κ:Ka} {rs:Rs} {t:Nat} {ti:TI}
theorem zS {b o:Nat} {u:Value} (hv:V ok w (.pto b o) ρ u): ∃a,u= .pointer (some a):=by simp only [V] at hv;obtain ⟨r,_,e⟩:=hv;exact ⟨_,e⟩
theorem aay {b:List AV} {o:Nat} {u:Value} (hv:V ok w (.ptp b o) ρ u): ∃a,u= .pointer (some a):=by simp only [V] at hv;obtain ⟨r,p,_,e,_⟩:=hv;exact ⟨_,e⟩
theorem aaZ {u:Value} (hv:V ok w .sle ρ u): ∃a c,u= .slice (some a) 0 c:=by simpa only [V] using hv
theorem afu {b o l c z:Nat} {ex:Bool} {u:Value} (hv:V ok w (.slo b o l c z ex) ρ u): ∃a c,u= .slice (some a) l c:=by simp only [V] at hv;obtain ⟨r,c,_,e,_⟩:=hv;exact ⟨_,_,e⟩
theorem xT {b:List AV} {l:Nat} {u:Value} (hv:V ok w (.slp b l) ρ u): ∃a c,u= .slice (some a) l c:=by simp only [V] at hv;obtain ⟨r,p,c,_,e,_⟩:=hv;exact ⟨_,_,e⟩
theorem aup {b:Nat} {u:Value} (hv:V ok w (.mpo b) ρ u): ∃a,u= .map (some a):=by simp only [V] at hv;obtain ⟨r,_,e⟩:=hv;exact ⟨_,e⟩
theorem at4 {a b:List AV} {u:Value} (hv:V ok w (.mpp a b) ρ u): ∃a,u= .map (some a):=by simp only [V] at hv;obtain ⟨r,es,ck,_,e,_⟩:=hv;exact ⟨_,e⟩
theorem V_fn {f:Nat} {a b:List AV} {u:Value} (hv:V ok w (.fn f a b) ρ u): ∃f a c,u= .func f a c:=by simp only [V] at hv;obtain ⟨a',c',e,_⟩:=hv;exact ⟨_,_,_,e⟩
theorem jh {X Y:Operand} {u v:Value} (h1:u≠ .nilIface) (h2: ∀c,u≠ .agg c) (op:BinOp):(eqGuard op t X Y u v).run P w= .ok () w:=by
 cases u<;>first|exact absurd rfl h1|exact absurd rfl (h2 _)|(unfold eqGuard;split<;>rfl)
set_option maxHeartbeats 1000000 in
theorem amz (T:dm P t ti) (F:ti.flat=true→ti.agg=true→nC P t ti.zero) {X Y:Operand} {x y:AV} {u v:Value} {b:Bool} (hx:V ok w x ρ u) (hy:V ok w y ρ v) (e:eqA ti x y=some b):
 (∀op,(eqGuard op t X Y u v).run P w= .ok () w)∧(binOp .eql t u v).run P w= .ok (.bool b) w∧(binOp .neq t u v).run P w= .ok (.bool !b) w:=by
 have hu:=T.und;have hag:=T.agg;unfold eqA at e;have key: ∀d,P.underlying t=some d→ ∀c,(∀d,(Op.equalIn (d+1) t u v).run P w= .ok c w)→(∀k n,u≠ .int k n)→(∀k n,u≠ .float k n)→(∀k a b,u≠ .complex k a b)→(∀s,u≠ .string s)→
  (binOp .eql t u v).run P w= .ok (.bool c) w∧(binOp .neq t u v).run P w= .ok (.bool !c) w:=by
  intro d hd c hc n1 n2 n3 n4;have hc:(Op.equalIn 10000 t u v).run P w= .ok c w:=hc 9999
  constructor
  ·cases u<;>first|exact absurd rfl (n1 _ _)|exact absurd rfl (n2 _ _)|exact absurd rfl (n3 _ _ _)|exact absurd rfl (n4 _)|(simp only [binOp,Op.equal,Op.maxDepth,Sem.run_bind,hc,Result.andThen_ok,Sem.run_pure])
  ·cases u<;>first|exact absurd rfl (n1 _ _)|exact absurd rfl (n2 _ _)|exact absurd rfl (n3 _ _ _)|exact absurd rfl (n4 _)|(simp only [binOp,Op.equal,Op.maxDepth,Sem.run_bind,hc,Result.andThen_ok,Sem.run_pure])
 split at e<;>(try (cases e;done))<;>(rename_i hk<;>simp only [hk,kg] at hu)
 case h_1=>
  simp only [V] at hx hy;subst hx;subst hy
  cases e
  refine ⟨jh (by simp) (by simp),?_⟩;rw [lF];exact key _ hu _ (fun d=>by simp only [Op.equalIn,Sem.run_bind,underlying,run_program,Result.andThen_ok,hu,Sem.run_pure]) (by simp) (by simp) (by simp) (by simp)
 case h_22=>
  obtain ⟨e1,e2⟩:=aB e;rw [Ba] at e1;obtain ⟨e3,e4⟩:=e1;have ha:ti.agg=true:=by rw [hag,hk]
  have FF:=F e3 ha;simp only [V] at hx hy;obtain ⟨xs,rfl,hx⟩:=hx;obtain ⟨ys,rfl,hy⟩:=hy;have hc:=FF.eq hx hy e4 e2;refine ⟨fun op=>?_,?_,?_⟩
  ·unfold eqGuard;split<;>simp [FF.guard]
  ·simp [binOp,hc]
  ·simp [binOp,hc]
 case h_23=>
  obtain ⟨e1,e2⟩:=aB e;rw [Ba] at e1;obtain ⟨e3,e4⟩:=e1;have ha:ti.agg=true:=by rw [hag,hk]
  have FF:=F e3 ha;simp only [V] at hx hy;obtain ⟨xs,rfl,hx⟩:=hx;obtain ⟨ys,rfl,hy⟩:=hy;have hc:=FF.eq hx hy e4 e2;refine ⟨fun op=>?_,?_,?_⟩
  ·unfold eqGuard;split<;>simp [FF.guard]
  ·simp [binOp,hc]
  ·simp [binOp,hc]
 case h_24=>
  obtain ⟨e1,e2⟩:=aB e
  cases e2
  rw [Ba] at e1;have q1:=A8 e1.1;have q2:=A8 e1.2;subst q1;subst q2;simp only [V] at hx hy;obtain ⟨r,r1,rfl⟩:=hx;obtain ⟨r',r2,rfl⟩:=hy;rw [r1] at r2
  cases r2
  obtain ⟨i,hi⟩:=T.ptr _ hk;refine ⟨jh (by simp) (by simp),?_⟩;refine key _ hu true (fun d=>?_) (by simp) (by simp) (by simp) (by simp);simp only [Op.equalIn,Sem.run_bind,underlying,run_program,Result.andThen_ok,hu,Sem.run_pure,sizeOf,typeInfo,hi]
  split<;>simp [sameAddr]
 all_goals (try obtain ⟨_,_,_,hu⟩:=hu)
 all_goals cases e
 all_goals first|obtain ⟨_,rfl⟩:=zS hx|obtain ⟨_,rfl⟩:=aay hx|obtain ⟨_,_,rfl⟩:=aaZ hx|obtain ⟨_,_,rfl⟩:=afu hx|obtain ⟨_,_,rfl⟩:=xT hx|obtain ⟨_,rfl⟩:=aup hx|obtain ⟨_,rfl⟩:=at4 hx|obtain ⟨_,_,_,rfl⟩:=V_fn hx|(simp only [V] at hx;subst hx)
 all_goals first|obtain ⟨_,rfl⟩:=zS hy|obtain ⟨_,rfl⟩:=aay hy|obtain ⟨_,_,rfl⟩:=aaZ hy|obtain ⟨_,_,rfl⟩:=afu hy|obtain ⟨_,_,rfl⟩:=xT hy|obtain ⟨_,rfl⟩:=aup hy|obtain ⟨_,rfl⟩:=at4 hy|obtain ⟨_,_,_,rfl⟩:=V_fn hy|(simp only [V] at hy;subst hy)
 all_goals refine ⟨jh (by simp) (by simp),?_⟩
 all_goals exact key _ hu _ (fun d=>by simp only [Op.equalIn,Sem.run_bind,underlying,run_program,Result.andThen_ok,hu,Sem.run_pure,Option.isNone_none,Option.isNone_some]) (by simp) (by simp) (by simp) (by simp)
end
section
variable {P:Program} {C:Cx} {ok:Nat→Prop} {w:World} {ρ:Rho} {h:AH} {κ:Ka} {rs:Rs} {t:Nat} {ti:TI}
theorem abG {n:Nat} {p:AV} {u:Value} (hp:V ok w p ρ u) (e:aj n p h κ=some rs): ∃v a,κ v h=some rs∧u= .pointer (some a)∧V ok w v ρ (.pointer (some (a.add n)))∧a.spot=none:=by
 rcases gz e with ⟨b,o,rfl,e2⟩|⟨c,o,rfl,e2⟩
 ·simp only [V] at hp
  obtain ⟨r,h1,rfl⟩:=hp;refine ⟨_,_,e2,rfl,?_,rfl⟩;rw [eI];simp only [V];exact ⟨r,h1,rfl⟩
 ·simp only [V] at hp
  obtain ⟨r,q,h1,rfl,h3⟩:=hp;refine ⟨_,_,e2,rfl,?_,rfl⟩;rw [eI];simp only [V];exact ⟨r,q,h1,by simp [Cq],h3⟩
theorem vS (TY: ∀t ti,C.ty t=some ti→dm P t ti) {f off:Nat} {ui:TI} (e:eU C t f=some (off,ui)): ∃(F:Array Field) (fd:Field),P.underlying t=some (.struct F)∧F[f]? =some fd∧fd.offset=off∧dm P fd.type ui:=by
 unfold eU at e
 split at e
 ·rename_i ti ht
  split at e
  ·rename_i fs hk
   have hu:=(TY _ _ ht).und;rw [hk] at hu;obtain ⟨F,hu,hfs⟩:=hu
   split at e
   ·rename_i off' u' hf
    split at e
    ·rename_i ui' hui
     cases e
     rw [bI,hfs,Bn] at hf
     cases hF:F[f]? with
     |none=>simp [hF] at hf
     |some fd=>
      simp [hF] at hf
      exact ⟨F,fd,hu,hF,hf.1,hf.2▸TY _ _ hui⟩
    ·cases e
   ·cases e
  ·cases e
 ·cases e
theorem qz (TY: ∀t ti,C.ty t=some ti→dm P t ti) {f off:Nat} {ui:TI} (ef:eU C t f=some (off,ui)) (hz:ui.size≠0) {p:AV} {u:Value} (hp:V ok w p ρ u) (e:aj off p h κ=some rs):Pu P ok w ρ h κ rs (Instr.fieldAt t u f):=by
 obtain ⟨F,fd,h1,h2,h3,h4⟩:=vS TY ef;obtain ⟨v,a,k1,k2,k3,_⟩:=abG hp e;subst k2;refine ⟨v,_,k1,k3,?_⟩
 simp [Instr.fieldAt,Instr.sureAddr,underlying,h1,h2,fieldPlace,h4.cz,hz,h3]
theorem ae1 {F:List AV→Option Rs} {off:Nat} {ui:TI} {ft:Nat} (T:dm P ft ui) {x:AV} {u:Value} (hx:V ok w x ρ u)
 (e:(bq ui.agg (tp x (oA ui.size κ h off)) (tp x (tB κ h off)))=some rs): ∃us v y,u= .agg us∧κ v h=some rs∧V ok w v ρ y∧(part ft us off).run P w= .ok y w:=by
 cases ha:ui.agg with
 |true=>
  rw [ha,aA] at e;obtain ⟨cs,rfl,e1⟩:=rS e;obtain ⟨e2,e3⟩:=aB e1;simp only [V] at hx;obtain ⟨us,rfl,hx⟩:=hx;refine ⟨us,_,.agg (us.extract off (off+ui.size)),rfl,e3,?_,by simp [part,T.tP,ha,T.cz]⟩;unfold iP;rw [aS,bt];simp only [V];refine ⟨_,rfl,?_⟩
  have:=pN ui.size (tT off hx)
  simpa [CV,Di] using this
 |false=>
  rw [ha,aE] at e;obtain ⟨cs,rfl,e1⟩:=rS e;obtain ⟨v,e2,e3⟩:=ai e1;simp only [V] at hx;obtain ⟨us,rfl,hx⟩:=hx
  first|rw [dg] at e2|rw [bI] at e2
  obtain ⟨y,e4,e5⟩:=pb hx e2;refine ⟨us,v,y,rfl,e3,e5,?_⟩;have e4:us[off]? =some y:=by simpa using e4
  simp [part,T.tP,ha,e4]
theorem aaL (TY: ∀t ti,C.ty t=some ti→dm P t ti) {f off:Nat} {ui:TI} (ef:eU C t f=some (off,ui)) {x:AV} {u:Value} (hx:V ok w x ρ u)
 (e:(bq ui.agg (ur off ui.size x h κ) (vP off x h κ))=some rs):Pu P ok w ρ h κ rs (Instr.field t u f):=by
 obtain ⟨F,fd,h1,h2,h3,h4⟩:=vS TY ef;obtain ⟨us,v,y,rfl,k1,k2,k3⟩:=ae1 (F:=fun _=>none) h4 hx e;refine ⟨v,y,k1,k2,?_⟩;subst h3
 simp [Instr.field,underlying,h1,h2,asAgg,k3]
theorem qD {i:Int} {n:Nat} {f:Nat→Option Rs} (e:inB i n f=some rs): ∃m:Nat,i=Int.ofNat m∧m<n∧f m=some rs:=by
 obtain ⟨m,rfl,e1⟩:=kH e;obtain ⟨e2,e3⟩:=aB e1;exact ⟨m,rfl,by simpa [Ce] using e2,e3⟩
theorem ago {n el:Nat} {ei:TI} (hu:P.underlying t=some (.array n el)) (Te:dm P el ei) {p i:AV} {u v:Value} (hp:V ok w p ρ u) (hi:V ok w i ρ v) (e:kn n ei.size p i h κ=some rs):Pu P ok w ρ h κ rs (Instr.indexAt t u v):=by
 obtain ⟨k,j,rfl,e1⟩:=cj e;obtain ⟨m,rfl,hm,e2⟩:=qD e1;simp only [V] at hi;obtain ⟨ki,rfl,rfl⟩:=hi;obtain ⟨x,a,k1,rfl,k3,_⟩:=abG hp e2;refine ⟨x,_,k1,k3,?_⟩
 simp [Instr.indexAt,asIntOf,underlying,hu,Instr.sureAddr,Te.cz,hm]
theorem aeX {el:Nat} {ei:TI} (hu:P.underlying t=some (.slice el)) (Te:dm P el ei) {p i:AV} {u v:Value} (hp:V ok w p ρ u) (hi:V ok w i ρ v) (e:bM ei.size p i h κ=some rs):Pu P ok w ρ h κ rs (Instr.indexAt t u v):=by
 obtain ⟨k,j,rfl,e1⟩:=cj e;simp only [V] at hi;obtain ⟨ki,rfl,rfl⟩:=hi;rcases fq e1 with ⟨_,e2⟩|⟨_,e2⟩|⟨b,o,l,c,z,ex,rfl,e2⟩|⟨cs,l,rfl,e2⟩
 ·cases e2
 ·cases e2
 ·obtain ⟨m,rfl,hm,e3⟩:=qD e2
  obtain ⟨e4,e5⟩:=aB e3;simp only [V] at hp;obtain ⟨r,c',h1,rfl,_⟩:=hp;refine ⟨_,.pointer (some ⟨r,o+m*ei.size,none⟩),e5,?_,?_⟩
  ·simp only [V];exact ⟨r,h1,rfl⟩
  ·simp [Instr.indexAt,asIntOf,underlying,hu,Te.cz,hm,eI]
 ·obtain ⟨m,rfl,hm,e3⟩:=qD e2
  simp only [V] at hp;obtain ⟨r,q,c,h1,rfl,h2,h3⟩:=hp;refine ⟨_,.pointer (some ⟨r,q+m*ei.size,none⟩),e3,?_,?_⟩
  ·simp only [V];exact ⟨r,q,h1,rfl,h3⟩
  ·simp [Instr.indexAt,asIntOf,underlying,hu,Te.cz,hm,eI]
theorem afI {n el:Nat} {ei:TI} (hu:P.underlying t=some (.array n el)) (Te:dm P el ei) {p i:AV} {u v:Value} (hp:V ok w p ρ u) (hi:V ok w i ρ v)
 (e:(bq ei.agg (ao4 n ei.size p i h κ) (aeV n ei.size p i h κ))=some rs):Pu P ok w ρ h κ rs (Instr.index t u v):=by
 have: ∃k m,i= .int k (.ofNat m)∧m<n∧(bq ei.agg (ur (Nat.mul m ei.size) ei.size p h κ) (vP (Nat.mul m ei.size) p h κ))=some rs:=by
  cases ha:ei.agg with
  |true=>
   rw [ha,aA] at e;obtain ⟨k,j,rfl,e1⟩:=cj e;obtain ⟨m,rfl,hm,e2⟩:=qD e1;exact ⟨k,m,rfl,hm,e2⟩
  |false=>
   rw [ha,aE] at e;obtain ⟨k,j,rfl,e1⟩:=cj e;obtain ⟨m,rfl,hm,e2⟩:=qD e1;exact ⟨k,m,rfl,hm,e2⟩
 obtain ⟨k,m,rfl,hm,e2⟩:=this;simp only [V] at hi;obtain ⟨ki,rfl,rfl⟩:=hi;obtain ⟨us,x,y,rfl,k1,k2,k3⟩:=ae1 (F:=fun _=>none) Te hp e2;refine ⟨x,y,k1,k2,?_⟩;have k3:(part el us (m*ei.size)).run P w= .ok y w:=k3
 simp [Instr.index,asIntOf,underlying,hu,Te.cz,hm,k3]
theorem aeY (hu:P.underlying t=some .string) {p i:AV} {u v:Value} (hp:V ok w p ρ u) (hi:V ok w i ρ v) (e:aqx p i h κ=some rs):Pu P ok w ρ h κ rs (Instr.index t u v):=by
 obtain ⟨l,rfl,e1⟩:=fj e;obtain ⟨k,j,rfl,e2⟩:=cj e1;obtain ⟨m,rfl,e3⟩:=kH e2;obtain ⟨b,e4,e5⟩:=ai e3;simp only [V] at hp hi;obtain ⟨s,rfl,rfl⟩:=hp;obtain ⟨ki,rfl,rfl⟩:=hi;rw [bI,Bn] at e4
 cases hs:s.data.toList[m]? with
 |none=>simp [hs] at e4
 |some c=>
  simp [hs] at e4
  subst e4;refine ⟨_,_,e5,eE .u8 _,?_⟩;have hlt:m<s.size:=by
   have:=(Bc.1 hs).1
   simpa using this
  have hc:s[m]? =some c:=by
   rw [ByteArray.getElem?_lt' s m hlt]
   have:=(Bc.1 hs).2
   congr 1
  simp [Instr.index,asIntOf,underlying,hu,hc]
theorem amM {i:Nat} {x:AV} {u:Value} (hx:V ok w x ρ u) (e:fu i x h κ=some rs):Pu P ok w ρ h κ rs (Instr.extract u i):=by
 obtain ⟨cs,rfl,e1⟩:=ai7 e;obtain ⟨v,e2,e3⟩:=ai e1;simp only [V] at hx;obtain ⟨us,rfl,hx⟩:=hx
 first|rw [dg] at e2|rw [bI] at e2
 obtain ⟨y,e4,e5⟩:=pb hx e2;have e4:us[i]? =some y:=by simpa using e4
 exact ⟨v,y,e3,e5,by simp [Instr.extract,e4]⟩
def VO (ok:Nat→Prop) (w:World) (ρ:Rho):Option AV→Option Value→Prop
 |none,none=>True
 |some v,some u=>V ok w v ρ u
 |_,_=>False
theorem lW {d n:Nat} {x:Option AV} {u:Option Value} (hx:VO ok w ρ x u) (e:qZ d x=some n):(x=none∧u=none∧n=d)∨(∃k,x=some (.int (cT k) (.ofNat n))∧u=some (.int k (.ofNat n))):=by
 cases x with
 |none=>cases u with
  |none=>cases e;exact .inl ⟨rfl,rfl,rfl⟩
  |some u=>exact hx.elim
 |some x=>cases u with
  |none=>exact hx.elim
  |some u=>
   cases x<;>try (cases e;done)
   rename_i k i
   cases i with
   |negSucc i=>cases e
   |ofNat i=>
    cases e
    simp only [VO,V] at hx;obtain ⟨k',rfl,rfl⟩:=hx;exact .inr ⟨k',rfl,rfl⟩
theorem kz {len cap cap':Nat} {lo hi mx:Option AV} {LO HI MX:Option Value} {f:Nat→Nat→Nat→Option Rs} (hl:VO ok w ρ lo LO) (hh:VO ok w ρ hi HI) (hm:VO ok w ρ mx MX) (hc:cap≤cap')
 (e:oP len cap lo hi mx f=some rs): ∃l u m m',f l u m=some rs∧l≤u∧u≤m∧m≤cap∧((mx=none∧m=cap∧m'=cap')∨(mx.isSome=true∧m'=m))∧ ∀b,(Instr.sliceBounds b len cap' LO HI MX).run P w= .ok (l,u,m') w:=by
 obtain ⟨l,e1,e⟩:=ai e;obtain ⟨u,e2,e⟩:=ai e;obtain ⟨m,e3,e⟩:=ai e;obtain ⟨e4,e⟩:=aB e;simp only [Ba] at e4;obtain ⟨⟨c1,c2⟩,c3,c4⟩:=e4;have c1:=Be c1;have c2:=Be c2;have c3:=Be c3;refine ⟨l,u,m,if mx.isSome then m else cap',e,c1,c2,c3,?_,?_⟩
 ·rcases lW hm e3 with ⟨rfl,_,rfl⟩|⟨k,rfl,_⟩
  ·exact .inl ⟨rfl,rfl,by simp⟩
  ·exact .inr ⟨rfl,by simp⟩
 ·intro b
  rcases lW hl e1 with ⟨a1,a2,a3⟩|⟨k1,a1,a2⟩<;>rcases lW hh e2 with ⟨b1,b2,b3⟩|⟨k2,b1,b2⟩<;>rcases lW hm e3 with ⟨d1,d2,d3⟩|⟨k3,d1,d2⟩
  all_goals subst a1 a2 b1 b2 d1 d2
  all_goals first|(exfalso;simp at c4;done)|skip
  all_goals (try subst a3)
  all_goals (try subst b3)
  all_goals have q1:=Bo (Bo c2 c3) hc
  all_goals have q2:=Bo c3 hc
  all_goals simp [Instr.sliceBounds,Instr.sliceBound,asIntOf,q1,q2,c1,c2]
theorem apP (hu:P.underlying t=some .string) {x:AV} {u:Value} {lo hi:Option AV} {LO HI:Option Value} (hx:V ok w x ρ u) (hl:VO ok w ρ lo LO) (hh:VO ok w ρ hi HI) (e:slT x lo hi h κ=some rs):Pu P ok w ρ h κ rs (Instr.sliceAt t u LO HI none):=by
 obtain ⟨s,rfl,e1⟩:=fj e;simp only [V] at hx;obtain ⟨S,rfl,rfl⟩:=hx;obtain ⟨l,e2,e1⟩:=ai e1;obtain ⟨m,e3,e1⟩:=ai e1;obtain ⟨e4,e5⟩:=aB e1;rw [Ba] at e4;have c1:=Be e4.1;have c2:=Be e4.2;have hsz:ag (S.data.toList.map UInt8.toNat)=S.size:=by rw [ah];simp
 rw [hsz] at e3 c2;have hb:oP S.size S.size lo hi none (fun l u m=>κ (.str (cE (Nat.sub u l) (cL l (S.data.toList.map UInt8.toNat)))) h)=some rs:=by
  have c3:Nat.ble S.size S.size=true:=BH (A9 _);unfold oP;rw [e2,aT,e3,aT];show bq (and (and (Nat.ble l m) (Nat.ble m S.size)) (and (Nat.ble S.size S.size) true)) _ _=_;rw [e4.1,BH c2,c3];exact e5
 obtain ⟨l',m',_,_,k1,k2,k3,k4,k5,k6⟩:=kz (P:=P) (MX:=none) hl hh (by simp [VO]) (A9 _) hb;refine ⟨_,.string (S.extract l' m'),k1,?_,?_⟩
 ·simp only [V]
  refine ⟨_,rfl,?_⟩;rw [aS,bt]
  have:(S.extract l' m').data.toList=(S.data.toList.drop l').take (m'-l'):=by
   simp [CV,Di]
  rw [this]
  simp
 ·rcases k5 with ⟨_,rfl,rfl⟩|⟨c,_⟩
  ·simp [Instr.sliceAt,underlying,hu,Instr.slice,k6]
  ·simp at c
theorem amE {el:Nat} {ei:TI} (hu:P.underlying t=some (.slice el)) (Te:dm P el ei) {x:AV} {u:Value} {lo hi mx:Option AV} {LO HI MX:Option Value} (hx:V ok w x ρ u) (hl:VO ok w ρ lo LO) (hh:VO ok w ρ hi HI) (hm:VO ok w ρ mx MX)
 (e:slS ei.size x lo hi mx h κ=some rs):Pu P ok w ρ h κ rs (Instr.sliceAt t u LO HI MX):=by
 rcases fq e with ⟨rfl,e1⟩|⟨rfl,e1⟩|⟨b,o,l,c,z,ex,rfl,e1⟩|⟨cs,len,rfl,e1⟩
 ·simp only [V] at hx
  subst hx;obtain ⟨l,m,p,p',k1,k2,k3,k4,k5,k6⟩:=kz (P:=P) hl hh hm (A9 _) e1
  have:l=0∧m=0∧p'=0:=by rcases k5 with ⟨_,_,_⟩|⟨_,_⟩<;>omega
  obtain ⟨rfl,rfl,rfl⟩:=this;exact ⟨_,.slice none 0 0,k1,by simp only [V],by simp [Instr.sliceAt,underlying,hu,Instr.slice,k6,Te.cz]⟩
 ·simp only [V] at hx
  obtain ⟨a,c,rfl⟩:=hx;obtain ⟨l,m,p,p',k1,k2,k3,k4,k5,k6⟩:=kz (P:=P) hl hh hm (Cm c) e1
  have:l=0∧m=0:=by omega
  obtain ⟨rfl,rfl⟩:=this;exact ⟨_,.slice (if p'=0 then some a else some (a.add (0*ei.size))) 0 p',k1,by simp only [V];split<;>exact ⟨_,_,rfl⟩,by simp [Instr.sliceAt,underlying,hu,Instr.slice,k6,Te.cz]⟩
 ·simp only [V] at hx
  obtain ⟨r,c',h1,rfl,h2,hlc,tt,n,h3,h4⟩:=hx;have hcc:c≤c':=by cases ex<;>simp at h2<;>omega
  obtain ⟨l',m,p,p',k1,k2,k3,k4,k5,k6⟩:=kz (P:=P) hl hh hm hcc e1;obtain ⟨e2,e3⟩:=aB k1;have e2:=A8 e2;subst e2;have run:(Instr.sliceAt t (.slice (some ⟨r,o,none⟩) l c') LO HI MX).run P w= .ok (.slice (if p'=l' then some ⟨r,o,none⟩ else some ⟨r,o+l'*ei.size,none⟩) (m-l') (p'-l')) w:=by
   simp [Instr.sliceAt,underlying,hu,Instr.slice,k6,Te.cz,eI]
  cases hb:Nat.beq l' p with
  |true=>
   rw [hb,aA] at e3;have hlp:=A8 hb;refine ⟨_,_,e3,?_,run⟩;rw [show m-l'=0 by omega];simp only [V]
   split<;>exact ⟨_,_,rfl⟩
  |false=>
   rw [hb,aE] at e3;have hlp:l'≠p:=fun c=>by rw [c,Bs] at hb;cases hb
   have hp:p'≠l':=by rcases k5 with ⟨_,_,_⟩|⟨_,_⟩<;>omega
   refine ⟨_,_,e3,?_,run⟩;rw [if_neg hp];simp only [V];refine ⟨r,p'-l',h1,rfl,?_,by show m-l'≤_;rcases k5 with ⟨_,_,_⟩|⟨_,_⟩<;>omega,tt,n,h3,?_⟩
   ·rcases k5 with ⟨rfl,rfl,rfl⟩|⟨q1,rfl⟩
    ·cases ex<;>simp at h2 ⊢
     ·omega
     ·omega
    ·simp [q1]
   ·have:p'≤c':=by rcases k5 with ⟨_,_,_⟩|⟨_,_⟩<;>omega
    have hl':l'≤p':=by omega
    have:l'*ei.size+(p'-l')*ei.size≤c'*ei.size:=by
     rw [←CG];exact BQ _ (by omega)
    show o+l'*ei.size+(p'-l')*ei.size≤n;omega
 ·simp only [V] at hx
  obtain ⟨r,q,c,h1,rfl,h2,h3⟩:=hx;obtain ⟨l',m,p,p',k1,k2,k3,k4,k5,k6⟩:=kz (P:=P) hl hh hm h2 e1;obtain ⟨e2,e3⟩:=aB k1;have e2:=A8 e2;rw [ah] at e2;have run:(Instr.sliceAt t (.slice (some ⟨r,q,none⟩) len c) LO HI MX).run P w= .ok (.slice (if p'=l' then some ⟨r,q,none⟩ else some ⟨r,q+l'*ei.size,none⟩) (m-l') (p'-l')) w:=by
   simp [Instr.sliceAt,underlying,hu,Instr.slice,k6,Te.cz,eI]
  cases hb:and mx.isSome (Nat.beq l' p) with
  |true=>
   rw [hb,aA] at e3;rw [Ba] at hb;have hlp:=A8 hb.2;have hp:p'=p:=by
    rcases k5 with ⟨rfl,rfl,rfl⟩|⟨_,q⟩
    ·simp at hb
    ·exact q
   refine ⟨_,_,e3,?_,run⟩;rw [hp,←hlp,if_pos rfl,show m-l'=0 by omega,C8];simp only [V];exact ⟨_,_,rfl⟩
  |false=>
   rw [hb,aE] at e3;refine ⟨_,_,e3,?_,run⟩;rw [aS,bt]
   by_cases hp:p'=l'
   ·rw [if_pos hp]
    have hz:m-l'=0:=by rcases k5 with ⟨_,_,_⟩|⟨_,_⟩<;>omega
    simp only [V];refine ⟨r,q,p'-l',h1,rfl,by show m-l'≤_;omega,?_⟩;rw [show Nat.mul (Nat.sub m l') ei.size=0 by show (m-l')*ei.size=0;rw [hz,Nat.zero_mul]]
    simp [VAt]
   ·rw [if_neg hp]
    simp only [V];refine ⟨r,q+l'*ei.size,p'-l',h1,rfl,by show m-l'≤_;rcases k5 with ⟨_,_,_⟩|⟨_,_⟩<;>omega,?_⟩;exact fS _ (ib _ h3)
theorem alo {n el:Nat} {ei:TI} (hu:P.underlying t=some (.array n el)) (Te:dm P el ei) (I:Inv C ok w ρ h) {x:AV} {u:Value} {lo hi:Option AV} {LO HI:Option Value} (hx:V ok w x ρ u) (hl:VO ok w ρ lo LO) (hh:VO ok w ρ hi HI)
 (e:slA n ei.size x lo hi h κ=some rs):Pu P ok w ρ h κ rs (Instr.sliceAt t u LO HI none):=by
 rcases gz e with ⟨b,o,rfl,e0⟩|⟨c,o,rfl,e0⟩
 ·obtain ⟨cs,yt,e1,e0⟩:=lX e0
  obtain ⟨e2,e0⟩:=aB e0;have e2:=Be e2;rw [ah] at e2;simp only [V] at hx;obtain ⟨r,h1,rfl⟩:=hx;obtain ⟨r',g1,g2,g3⟩:=I.live b _ e1;rw [h1] at g1;cases g1;obtain ⟨arr,et,fr,k1,k2,k3,_⟩:=g3;have hsz:cs.length≤arr.size:=by
   cases cs with
   |nil=>simp
   |cons a l=>have:=(nP k1 _ k3).2 (by simp);omega
  obtain ⟨l,m,p,p',a1,a2,a3,a4,a5,a6⟩:=kz (P:=P) (MX:=none) hl hh (by simp [VO]) (A9 _) e0;have a5:p=n∧p'=n:=by rcases a5 with ⟨_,q1,q2⟩|⟨c,_⟩<;>simp_all
  obtain ⟨rfl,rfl⟩:=a5;have run:(Instr.sliceAt t (.pointer (some ⟨r,o,none⟩)) LO HI none).run P w= .ok (.slice (some (if p'=l then ⟨r,o,none⟩ else ⟨r,o+l*ei.size,none⟩)) (m-l) (p'-l)) w:=by
   simp [Instr.sliceAt,underlying,hu,Instr.sureAddr,a6,Te.cz,eI]
  cases hb:Nat.beq l p' with
  |true=>
   rw [hb,aA] at a1;have hlp:=A8 hb;refine ⟨_,_,a1,?_,run⟩;rw [←hlp,if_pos rfl,show m-l=0 by omega,C8];simp only [V];exact ⟨_,_,rfl⟩
  |false=>
   rw [hb,aE] at a1;have hlp:p'≠l:=fun c=>by rw [c,Bs] at hb;cases hb
   refine ⟨_,_,a1,?_,run⟩;rw [if_neg hlp];simp only [V];refine ⟨r,p'-l,h1,rfl,by simp,by show m-l≤_;omega,et,arr.size,by simp [World.shape?,k1],?_⟩;have e2:o+p'*ei.size≤cs.length:=e2
   have:l*ei.size+(p'-l)*ei.size≤p'*ei.size:=by
    rw [←CG];exact BQ _ (by omega)
   show o+l*ei.size+(p'-l)*ei.size≤arr.size;omega
 ·cases e0
theorem afo {el:Nat} {ts:Array TypeId} {ty:TypeId} (ht:ts[0]? =some t) (hu:P.underlying t=some (.slice el)) {x:AV} {u:Value} (hx:V ok w x ρ u) (e:bG x h κ=some rs):Pu P ok w ρ h κ rs (Builtin.len_ ts ty #[u]):=by
 rcases fq e with ⟨rfl,e1⟩|⟨rfl,e1⟩|⟨b,o,l,c,z,ex,rfl,e1⟩|⟨cs,len,rfl,e1⟩
 ·simp only [V] at hx
  subst hx;exact ⟨_,_,e1,eE .i64 _,by simp [Builtin.len_,ht,underlying,hu,goInt]⟩
 ·simp only [V] at hx
  obtain ⟨a,c,rfl⟩:=hx;exact ⟨_,_,e1,eE .i64 _,by simp [Builtin.len_,ht,underlying,hu,goInt]⟩
 ·obtain ⟨a,c,rfl⟩:=afu hx
  exact ⟨_,_,e1,eE .i64 _,by simp [Builtin.len_,ht,underlying,hu,goInt]⟩
 ·obtain ⟨a,c,rfl⟩:=xT hx
  exact ⟨_,_,e1,eE .i64 _,by simp [Builtin.len_,ht,underlying,hu,goInt]⟩
theorem afj {ts:Array TypeId} {ty:TypeId} (ht:ts[0]? =some t) (hu:P.underlying t=some .string) {x:AV} {u:Value} (hx:V ok w x ρ u) (e:ap7 x h κ=some rs):Pu P ok w ρ h κ rs (Builtin.len_ ts ty #[u]):=by
 obtain ⟨l,rfl,e1⟩:=fj e;simp only [V] at hx;obtain ⟨s,rfl,rfl⟩:=hx;refine ⟨_,_,e1,eE .i64 _,?_⟩;rw [ah]
 simp [Builtin.len_,ht,underlying,hu,goInt]
theorem ab7 (I:Inv C ok w ρ h) {x:AV} {u:Value} {ks vs:List AV} (hx:V ok w x ρ u) (e:mapOf h x=some (ks,vs)):
 (u= .map none∧ks=[]∧vs=[])∨ ∃r es ck,u= .map (some r)∧w.heap[r]? =some (.map es ck)∧VL ok w ks ρ (es.toList.map (·.key))∧VL ok w vs ρ (es.toList.map (·.val)):=by
 cases x<;>try (cases e;done)
 case nilm=>
  cases e
  simp only [V] at hx;exact .inl ⟨hx,rfl,rfl⟩
 case mpo b=>
  simp only [mapOf] at e
  split at e
  ·rename_i ks' vs' hb
   cases e
   simp only [V] at hx;obtain ⟨r,h1,rfl⟩:=hx;obtain ⟨r',g1,g2,g3⟩:=I.live b _ hb;rw [h1] at g1;cases g1;obtain ⟨es,ck,k1,k2,k3,_⟩:=g3;exact .inr ⟨r,es,ck,rfl,k1,k2,k3⟩
  ·cases e
 case mpp a b=>
  cases e
  simp only [V] at hx;obtain ⟨r,es,ck,h1,rfl,h3,h4,h5,_⟩:=hx;exact .inr ⟨r,es,ck,rfl,h3,h4.sub (fun _ _ h=>by cases h),h5.sub (fun _ _ h=>by cases h)⟩
theorem afW {kt et:Nat} {ts:Array TypeId} {ty:TypeId} (ht:ts[0]? =some t) (hu:P.underlying t=some (.map kt et)) (I:Inv C ok w ρ h) {x:AV} {u:Value} (hx:V ok w x ρ u) (e:arQ x h κ=some rs):Pu P ok w ρ h κ rs (Builtin.len_ ts ty #[u]):=by
 obtain ⟨⟨ks,vs⟩,e1,e2⟩:=ai e;rcases ab7 I hx e1 with ⟨rfl,rfl,rfl⟩|⟨r,es,ck,rfl,h2,h3,h4⟩
 ·exact ⟨_,_,e2,eE .i64 _,by simp [Builtin.len_,ht,underlying,hu,goInt];rfl⟩
 ·have:=cm h3
  refine ⟨_,_,e2,eE .i64 _,?_⟩;rw [ah,←this]
  simp [Builtin.len_,ht,underlying,hu,goInt,getObj,Sem.run,h2]
theorem aad {o:Oper} {xo:Operand} {x:AV} {u:Value} {a:Act} (ho:o.op= .nilCheck xo) (ha:a.eval xo=u) (hx:V ok w x ρ u) (e:aM x h κ=some rs):κ x h=some rs∧(execOp a.eval o).run P w= .ok (.value u) w:=by
 have key:κ x h=some rs∧((∃b,u= .pointer (some b))∨ ∃f c d,u= .func (.func f) c d):=by
  unfold aM at e
  cases x<;>try (cases e;done)
  ·exact ⟨e,.inl (zS hx)⟩
  ·exact ⟨e,.inl (aay hx)⟩
  ·simp only [V] at hx
   obtain ⟨a',c',e',_⟩:=hx;exact ⟨e,.inr ⟨_,_,_,e'⟩⟩
 refine ⟨key.1,?_⟩;unfold execOp;rw [ho];simp only [ha];rcases key.2 with ⟨b,rfl⟩|⟨f,c,d,rfl⟩<;>rfl
end
section
variable {P:Program} {C:Cx} {ok:Nat→Prop} {w:World} {ρ:Rho} {h:AH} {κ:Ka} {rs:Rs} {t:Nat} {ti:TI}
theorem ew (g o:Nat) (t:TypeId) (fr:Nat×Nat): ∀(vs:List Value) (i:Nat) (cur:Array Value) (w:World),w.heap[g]? =some (.cells cur t fr)→(∀j,j<cur.size→ ¬(fr.1≤j∧j<fr.2))→o+i+vs.length≤cur.size→(∀v∈vs,v.oneCell'=true)→
 (storeCells ⟨g,o,none⟩ vs i).run P w= .ok () (w.setRow g (cur.toList.take (o+i)++vs++cur.toList.drop (o+i+vs.length)).toArray)
 |[],i,cur,w,hg,_,_,_=>by
  simp only [storeCells,Bx,CK,Do,CC,Array.toArray_toList];rw [setRow_self w g cur t fr hg];rfl
 |v::rest,i,cur,w,hg,hf,hl,h1=>by
  have hi:o+i<cur.size:=by simp at hl;omega
  have hcell:w.cell? ⟨g,o+i,none⟩=some cur[o+i]:=by simp [World.cell?,hg,hi]
  have hfro:w.frozen? ⟨g,o+i,none⟩=false:=by
   have:=hf (o+i) hi
   obtain ⟨lo,hi'⟩:=fr;simp only [World.frozen?,hg];rw [BD]
   simpa using this
  have hst:(store ((⟨g,o,none⟩:Addr).add i) v).run P w= .ok () (w.setRow g (cur.setIfInBounds (o+i) v)):=by
   rw [eI,run_store P w _ v _ (h1 v (by simp)),hcell]
   simp [hfro,setCell_eq_setRow w g (o+i) cur t fr v hg]
  have ih:=ew g o t fr rest (i+1) (cur.setIfInBounds (o+i) v) (w.setRow g (cur.setIfInBounds (o+i) v)) (setRow_heap w g cur _ t _ hg) (by simpa using hf) (by simp at hl ⊢;omega) (fun x hx=>h1 x (by simp [hx]))
  simp only [storeCells,Sem.run_bind,hst,Result.andThen_ok,ih,setRow_setRow]
  congr 3
  have e:=list_seg_step cur.toList (o+i) v rest (by simp at hl ⊢;omega)
  simpa [B0,Cq] using e
theorem tQ (I:Inv C ok w ρ h) {n yt:Nat} {cs:List AV} (hn:ab h n=some (.cells cs yt)): ∃r arr e fr,ρ n=some r∧ ¬ok r∧w.heap[r]? =some (.cells arr e fr)∧(∀i,i<arr.size→ ¬(fr.1≤i∧i<fr.2))∧VL ok w cs ρ (arr.toList.take cs.length)∧cs.length≤arr.size∧
 ∀(cs':List AV) (arr':Array Value),arr'.size=arr.size→VL ok w cs' ρ (arr'.toList.take cs'.length)→
  Ext ok w ρ h ok (w.setRow r arr') ρ (bH (some (.cells cs' yt)) h n)∧Inv C ok (w.setRow r arr') ρ (bH (some (.cells cs' yt)) h n):=by
 obtain ⟨r,h1,h2,arr,e,fr,k1,k2,k3,k4⟩:=I.live n _ hn;obtain ⟨a1,a2⟩:=nP k1 cs k3;refine ⟨r,arr,e,fr,h1,h2,k1,k2,by simpa using a1,?_,fun cs' arr' hs hv=>?_⟩
 ·cases cs with
  |nil=>simp
  |cons a l=>have:=a2 (by simp);omega
 ·refine Ext.write I hn h1 (by simp) (fun k hk=>setRow_other w r k arr' hk) ?_ rfl rfl rfl (fun U=>?_)
  ·intro s hs'
   have:w.shape? r=some (e,arr.size):=by simp [World.shape?,k1]
   rw [this] at hs'
   cases hs'
   simp [World.shape?,setRow_heap w r arr arr' e fr k1,hs]
  ·refine ⟨arr',e,fr,setRow_heap w r arr arr' e fr k1,by rw [hs];exact k2,?_,k4.1,by rw [hs];exact k4.2⟩
   refine kY (setRow_heap w r arr arr' e fr k1) cs' (VL.up cs' U hv) ?_;simp only [BF]
   have:=cm hv
   rw [this]
theorem yM {v:AV} {u:Value} (hv:V ok w v ρ u) (hp:v.plain=true):u.oneCell'=true∧u.cells= #[u]∧(∀cs,u≠ .agg cs):=by
 cases v<;>simp only [V] at hv
 case bot=>cases hp
 case agg=>cases hp
 case tup=>cases hp
 case int=>obtain ⟨k,_,rfl⟩:=hv;simp [Value.oneCell',Value.cells]
 case str=>obtain ⟨s,rfl,_⟩:=hv;simp [Value.oneCell',Value.cells]
 case pto=>obtain ⟨r,_,rfl⟩:=hv;simp [Value.oneCell',Value.cells]
 case ptp=>obtain ⟨r,p,_,rfl,_⟩:=hv;simp [Value.oneCell',Value.cells]
 case slo=>obtain ⟨r,c,_,rfl,_⟩:=hv;simp [Value.oneCell',Value.cells]
 case slp=>obtain ⟨r,p,c,_,rfl,_⟩:=hv;simp [Value.oneCell',Value.cells]
 case sle=>obtain ⟨a,c,rfl⟩:=hv;simp [Value.oneCell',Value.cells]
 case mpo=>obtain ⟨r,_,rfl⟩:=hv;simp [Value.oneCell',Value.cells]
 case mpp=>obtain ⟨r,es,ck,_,rfl,_⟩:=hv;simp [Value.oneCell',Value.cells]
 case fn=>obtain ⟨a,c,rfl,_⟩:=hv;simp [Value.oneCell',Value.cells]
 all_goals (subst hv;simp [Value.oneCell',Value.cells])
theorem vq: ∀{cs:List AV} {ρ:Rho} {us:List Value},VL ok w cs ρ us→aO cs=true→ ∀v∈us,v.oneCell'=true
 |[],_,_,h,_=>by simp only [VL] at h;subst h;simp
 |c::cs,_,_,h,hp=>by
  simp only [VL] at h;obtain ⟨u,r,rfl,h1,h2⟩:=h;have hp:and c.plain (aO cs)=true:=hp;rw [Ba] at hp;intro v hv;rcases Bv.1 hv with rfl|hv
  ·exact (yM h1 hp.1).1
  ·exact vq h2 hp.2 v hv
theorem afs {v:AV} {u:Value} (hv:V ok w v ρ u) (hb:v≠ .bot):VL ok w v.cells ρ u.cells.toList:=by
 by_cases ha: ∃cs,v= .agg cs
 ·obtain ⟨cs,rfl⟩:=ha
  simp only [V] at hv;obtain ⟨us,rfl,hv⟩:=hv;exact hv
 ·have h1:v.cells=[v]:=by cases v<;>first|rfl|exact absurd ⟨_,rfl⟩ ha
  have h2:u.cells= #[u]:=by
   by_cases ht: ∃cs,v= .tup cs
   ·obtain ⟨cs,rfl⟩:=ht
    simp only [V] at hv;obtain ⟨us,rfl,_⟩:=hv;rfl
   ·refine (yM hv ?_).2.1
    cases v<;>first|rfl|exact absurd rfl hb|exact absurd ⟨_,rfl⟩ ha|exact absurd ⟨_,rfl⟩ ht
  rw [h1,h2];simp only [VL];exact ⟨u,[],rfl,hv,rfl⟩
theorem oO (l:List Value) (n i:Nat) (v:Value):(l.set i v).take n=(l.take n).set i v:=List.take_set ..
theorem vt (T:dm P t ti) (ha:ti.agg=false) (hz:ti.size=1) (I:Inv C ok w ρ h) {b o yt:Nat} {cs:List AV} {x:AV} {u v:Value} (hp:V ok w (.pto b o) ρ u) (hx:V ok w x ρ v) (e2:x.plain=true) (e4:ab h b=some (.cells cs yt)) (e5:aqw x κ h b o cs yt=some rs):Eu P C ok w ρ h κ rs (Instr.storeAt t u v):=by
 obtain ⟨old,e6,e7⟩:=ai e5
 first|rw [dg] at e6|rw [bI] at e6
 have ho:=(Bc.1 e6).1;simp only [V] at hp;obtain ⟨r,h1,rfl⟩:=hp;obtain ⟨r',arr,et,fr,g1,g2,g3,g4,g5,g6,g7⟩:=tQ I e4;rw [h1] at g1;cases g1;obtain ⟨p1,p2,p3⟩:=yM hx e2;obtain ⟨E,I'⟩:=g7 (bH x cs o) (arr.setIfInBounds o v) (by simp) (by
  rw [cK,Bb,B0,oO];exact vk o g5 hx)
 refine ⟨_,_,_,_,e7,E,I',?_⟩;have hs:=ew (P:=P) r o et fr [v] 0 arr w g3 g4 (by simp;omega) (by simpa using p1);simp only [Instr.storeAt,Instr.sureAddr,storeVar,Sem.run_bind,Sem.run_pure,Result.andThen_ok,T.cz,p2,hz];rw [show (arr.setIfInBounds o v)=(arr.toList.take (o+0)++[v]++arr.toList.drop (o+0+[v].length)).toArray from ?_]
 ·simpa using hs
 ·apply Dn
  rw [B0];simp only [Do,List.length_singleton];rw [List.set_eq_take_append_cons_drop,if_pos (by simp;omega)]
  simp
theorem Eu.put {h1 H H2:AH} {s:Sem Unit} (k:dW h h1) (hp:dW H H2) (p:Eu P C ok w ρ h1 (sD H H2 κ) rs s):Eu P C ok w ρ h κ rs s:=
 Eu.heq k (fun h' e=>by obtain ⟨rfl,e'⟩:=wO e;exact ⟨_,e',hp⟩) p
theorem Ef.put {h1 H H2:AH} {s:Sem Value} (k:dW h h1) (hp:dW H H2) (p:Ef P C ok w ρ h1 (sD H H2 κ) rs s):Ef P C ok w ρ h κ rs s:=
 Ef.heq k (fun v h' e=>by obtain ⟨rfl,e'⟩:=wO e;exact ⟨_,e',hp⟩) p
theorem lQ {b z yt:Nat} {ll:List (List AV)} {B:Blk} (hb:ab h b=some (.rows z ll yt)):ab (bH (some B) h b) b=some B:=by
 rw [dC,if_pos ⟨rfl,cJ (by rw [hb];simp)⟩]
theorem tZ (I:Inv C ok w ρ h) {b z yt:Nat} {ll:List (List AV)} (hb:ab h b=some (.rows z ll yt)): ∀l∈ll,l.length=z:=by
 obtain ⟨r',g1,g2,g3⟩:=I.live b _ hb;exact g3.1
theorem BEq.cells {z:Nat} {ll:List (List AV)} {cs:List AV} {y:Nat} (h: ∀l∈ll,l.length=z) (e:ll.flatten=cs):BEq (.cells cs y) (.rows z ll y):=by
 subst e;exact fun a b c d=>(BEq.rows h a b c d).symm
theorem uF {b z yt:Nat} {ll ll':List (List AV)} {cs:List AV} (hb:ab h b=some (.rows z ll yt)) (g: ∀l∈ll,l.length=z) (g': ∀l∈ll',l.length=z) (hf:ll'.flatten=cs):dW (bH (some (.cells cs yt)) (bH (some (.cells ll.flatten yt)) h b) b) (bH (some (.rows z ll' yt)) h b):=
 dW.set (dW.one hb (BEq.rows g)).symm b (.inr ⟨_,_,rfl,rfl,BEq.cells g' hf⟩)
theorem ajC (T:dm P t ti) (ha:ti.agg=false) (hz:ti.size=1) (I:Inv C ok w ρ h) {p x:AV} {u v:Value} (hp:V ok w p ρ u) (hx:V ok w x ρ v) (e:bQ p x h κ=some rs):Eu P C ok w ρ h κ rs (Instr.storeAt t u v):=by
 rcases gz e with ⟨b,o,rfl,e1⟩|⟨c,o,rfl,e1⟩
 ·obtain ⟨e2,e3⟩:=aB e1
  rcases lg e3 with ⟨cs,yt,e4,e5⟩|⟨z,ll,yt,e4,e5⟩
  ·exact vt T ha hz I hp hx e2 e4 e5
  ·have hu:=tZ I e4
   obtain ⟨l,q1,q2⟩:=ai e5;obtain ⟨old,q3,q4⟩:=ai q2;rw [bI] at q1;rw [dg] at q3;have hq:=(Bc.1 q3).1;obtain ⟨a,d,f1,f2,f3,f4⟩:=tM hu q1;have f4: ∀l',(ll.set (o/z) l').flatten=a++l'++d:=f4;have ho:o=a.length+o%z:=by rw [f2,Db];exact (CM o z).symm
   have hfl:(bH (bH x l (Nat.mod o z)) ll (Nat.div o z)).flatten=bH x ll.flatten o:=by
    rw [cK,cK,cK,f1];show (ll.set (o/z) (l.set (o%z) x)).flatten=_
    conv=>rhs;rw [ho]
    rw [f4,asF a l d (o%z) x hq]
   have k:=dW.one e4 (BEq.rows hu);have hu': ∀l'∈bH (bH x l (Nat.mod o z)) ll (Nat.div o z),l'.length=z:=by
    intro l' hl';rw [cK,cK] at hl';rcases CT hl' with hl'|rfl
    ·exact hu l' hl'
    ·rw [Bb];exact f3
   have hput:=uF e4 hu hu' hfl;refine Eu.put k hput (vt T ha hz (I.heq k) (b:=b) (o:=o) (cs:=ll.flatten) (yt:=yt) hp hx e2 (lQ e4) ?_);show au (mf ll.flatten o) _=some rs;rw [dg,aaH hu q1 q3];show sD _ _ κ _ _=some rs;rw [ny];exact q4
 ·cases e1
theorem aam (l vs:List Value) (off n:Nat) (h1:off+vs.length≤n) (h2:n≤l.length):
 (l.take off++vs++l.drop (off+vs.length)).take n=(l.take n).take off++vs++(l.take n).drop (off+vs.length):=by
 apply Cz;intro j;simp only [BZ,List.getElem?_append,C4,A7,Bq]
 repeat' split
 all_goals first|rfl|omega|(simp_all;omega)|skip
 all_goals (first|(congr 1;omega)|(rw [BC (by omega)])|(rw [BC (by omega),BC (by omega)]))
theorem agE (cs:List AV) (off:Nat) (vs:List AV):fK cs off vs=cs.take off++vs++cs.drop (off+vs.length):=by
 unfold fK;rw [aV,aV,aS,bt,ah,BJ];rfl
theorem og (I:Inv C ok w ρ h) {b o yt:Nat} {cs vs:List AV} {us:List Value} (hb:ab h b=some (.cells cs yt)) (hv:VL ok w vs ρ us) (hl:o+vs.length≤cs.length) (hp:aO vs=true):
 ∃r w',ρ b=some r∧(storeCells ⟨r,o,none⟩ us).run P w= .ok () w'∧Ext ok w ρ h ok w' ρ (bH (some (.cells (fK cs o vs) yt)) h b)∧Inv C ok w' ρ (bH (some (.cells (fK cs o vs) yt)) h b):=by
 obtain ⟨r,arr,et,fr,g1,g2,g3,g4,g5,g6,g7⟩:=tQ I hb;have hlen:=cm hv;obtain ⟨E,I'⟩:=g7 (fK cs o vs) (arr.toList.take o++us++arr.toList.drop (o+us.length)).toArray (by simp;omega) (by
  rw [agE]
  have:(cs.take o++vs++cs.drop (o+vs.length)).length=cs.length:=by simp;omega
  rw [this];show VL ok w _ ρ ((arr.toList.take o++us++arr.toList.drop (o+us.length)).take cs.length);rw [aam _ _ _ _ (by omega) (by simpa using g6),hlen];exact gH (gH (pN o g5) hv) (tT _ g5))
 refine ⟨r,_,g1,?_,E,I'⟩
 have:=ew (P:=P) r o et fr us 0 arr w g3 g4 (by omega) (vq hv hp)
 simpa using this
theorem lI {α:Type} (cs:List α) (off:Nat) (vs:List α):fK cs off vs=cs.take off++vs++cs.drop (off+vs.length):=by
 unfold fK;rw [aV,aV,aS,bt,ah,BJ];rfl
theorem akX {α:Type} (a l b vs:List α) (q:Nat) (hq:q+vs.length≤l.length):fK (a++l++b) (a.length+q) vs=a++fK l q vs++b:=by
 rw [lI,lI,BJ a l b,List.take_append,Ch (show a.length≤a.length+q by omega),BK,BM (by omega),List.drop_append,CP (show a.length≤a.length+q+vs.length by omega),Cq,BK,CF (by omega)];simp only [BJ,BO]
theorem tX (T:dm P t ti) (I:Inv C ok w ρ h) {b o yt:Nat} {cs vs:List AV} {u v:Value} (hp:V ok w (.pto b o) ρ u) (hx:V ok w (.agg vs) ρ v) (e2:and (Nat.beq (ag vs) ti.size) (aO vs)=true) (e4:ab h b=some (.cells cs yt)) (e5:avo vs κ h b o cs yt=some rs):Eu P C ok w ρ h κ rs (Instr.storeAt t u v):=by
 rw [Ba] at e2;obtain ⟨e6,e7⟩:=aB e5;have e6:=Be e6;rw [ah,ah] at e6;have e21:=A8 e2.1;rw [ah] at e21;simp only [V] at hp hx;obtain ⟨r,h1,rfl⟩:=hp;obtain ⟨us,rfl,hx⟩:=hx;obtain ⟨r',w',g1,g2,E,I'⟩:=og (P:=P) I e4 hx e6 e2.2;rw [h1] at g1;cases g1;refine ⟨_,_,_,_,e7,E,I',?_⟩;have hsz:us.size=ti.size:=by have:=cm hx;simp at this;omega
 simp [Instr.storeAt,Instr.sureAddr,storeVar,T.cz,Value.cells,hsz,g2]
theorem ag2 (T:dm P t ti) (I:Inv C ok w ρ h) {p x:AV} {u v:Value} (hp:V ok w p ρ u) (hx:V ok w x ρ v) (e:ay ti.size p x h κ=some rs):Eu P C ok w ρ h κ rs (Instr.storeAt t u v):=by
 obtain ⟨vs,rfl,e0⟩:=rS e;rcases gz e0 with ⟨b,o,rfl,e1⟩|⟨c,o,rfl,e1⟩
 ·obtain ⟨e2,e3⟩:=aB e1
  rcases lg e3 with ⟨cs,yt,e4,e5⟩|⟨z,ll,yt,e4,e5⟩
  ·exact tX T I hp hx e2 e4 e5
  ·have hu:=tZ I e4
   obtain ⟨l,q1,q2⟩:=ai e5;obtain ⟨q3,q4⟩:=aB q2;rw [bI] at q1;have hq:o%z+ti.size≤z:=Be q3;have e21:=e2;rw [Ba] at e21;have hvl:=A8 e21.1;rw [ah] at hvl;obtain ⟨a,d,f1,f2,f3,f4⟩:=tM hu q1;have f4: ∀l',(ll.set (o/z) l').flatten=a++l'++d:=f4;have ho:o=a.length+o%z:=by rw [f2,Db];exact (CM o z).symm
   have hone:bq (and (Nat.beq (Nat.mod o z) 0) (Nat.beq ti.size z)) vs (fK l (Nat.mod o z) vs)=fK l (o%z) vs:=by
    cases hc:and (Nat.beq (Nat.mod o z) 0) (Nat.beq ti.size z) with
    |false=>rfl
    |true=>
     rw [Ba] at hc;have c1:o%z=0:=A8 hc.1;have c2:=A8 hc.2;rw [aA,c1,lI,C1,BO,CP (by omega),Bx]
   rw [hone] at q4;have hrl:(fK l (o%z) vs).length=z:=by rw [lI];simp;omega
   have hfl:(bH (fK l (o%z) vs) ll (Nat.div o z)).flatten=fK ll.flatten o vs:=by
    rw [cK,f1];show (ll.set (o/z) _).flatten=_
    conv=>rhs;rw [ho]
    rw [f4,akX a l d vs _ (by omega)]
   have hu': ∀l'∈bH (fK l (o%z) vs) ll (Nat.div o z),l'.length=z:=by
    intro l' hl';rw [cK] at hl';rcases CT hl' with hl'|rfl
    ·exact hu l' hl'
    ·exact hrl
   have k:=dW.one e4 (BEq.rows hu);have hput:=uF e4 hu hu' hfl;refine Eu.put k hput (tX T (I.heq k) (b:=b) (o:=o) (cs:=ll.flatten) (yt:=yt) hp hx e2 (lQ e4) ?_);have hle:o+vs.length≤ll.flatten.length:=by rw [f1];simp only [A7];omega
   show bq _ _ none=some rs;rw [ah,ah,show Nat.ble (Nat.add o vs.length) ll.flatten.length=true from BH hle,aA];show sD _ _ κ _ _=some rs;rw [ny];exact q4
 ·cases e1
theorem rW (I:Inv C ok w ρ h) {yt:Nat} {cs:List AV} {arr:Array Value} {el:TypeId} {w':World} (fr:Nat×Nat) (hf:fr.1=fr.2∨arr.size≤fr.1) (hw:w'.heap=w.heap.push (.cells arr el fr)) (h1:w'.os=w.os) (h2:w'.tape=w.tape) (h3:w'.output=w.output)
 (hv:VL ok w cs ρ (arr.toList.take cs.length)) (hy:yt=0∨yt=el+1):
 Ext ok w ρ h ok w' (cG ρ h.length w.heap.size) (av h [some (.cells cs yt)])∧Inv C ok w' (cG ρ h.length w.heap.size) (av h [some (.cells cs yt)]):=by
 refine Ext.new I hw h1 h2 h3 (fun U=>?_);have hg:w'.heap[w.heap.size]? =some (.cells arr el fr):=by rw [hw];simp
 refine ⟨arr,el,fr,hg,fun i hi=>by omega,kY hg cs (VL.up cs U hv) ?_,hy,hf⟩;simp only [BF];rw [cm hv]
theorem zu (I:Inv C ok w ρ h) {yt:Nat} {cs:List AV} {arr:Array Value} {el:TypeId} (hv:VL ok w cs ρ arr.toList) (hy:yt=0∨yt=el+1):
 Ext ok w ρ h ok {w with heap:=w.heap.push (.cells arr el)} (cG ρ h.length w.heap.size) (av h [some (.cells cs yt)])∧Inv C ok {w with heap:=w.heap.push (.cells arr el)} (cG ρ h.length w.heap.size) (av h [some (.cells cs yt)]):=by
 refine rW I (0,0) (by simp) rfl rfl rfl rfl ?_ hy
 have:=cm hv
 rw [←this,Cc];exact hv
theorem afi (I:Inv C ok w ρ h) {cs:List AV} {x:Value} {el:TypeId} {yt:Nat} (hv:VL ok w cs ρ x.cells.toList) (hy:yt=0∨yt=el+1) (e:cU h (.cells cs yt) κ=some rs):Ef P C ok w ρ h κ rs (do pure (.pointer (some (←newVar el x)))):=by
 obtain ⟨E,I'⟩:=zu (el:=el) I hv hy;refine ⟨.pto (ag h) 0,av h [some (.cells cs yt)],.pointer (some ⟨w.heap.size,0,none⟩),ok,{w with heap:=w.heap.push (.cells x.cells el)},cG ρ h.length w.heap.size,e,E,I',?_,?_⟩
 ·rw [ah];simp only [V];exact ⟨w.heap.size,by simp [cG],rfl⟩
 ·simp [newVar,newRow]
theorem akn (T:dm P t ti) (I:Inv C ok w ρ h) (e:cU h (.cells ti.zero (t+1)) κ=some rs):Ef P C ok w ρ h κ rs (Instr.alloc t true (.tuple #[])):=by
 obtain ⟨z,h1,h2,_⟩:=T.abj (w:=w);obtain ⟨v,h',x,ok',w',ρ',a1,a2,a3,a4,a5⟩:=afi (P:=P) (el:=t) I (h2 ok w ρ) (.inr rfl) e;refine ⟨v,h',x,ok',w',ρ',a1,a2,a3,a4,?_⟩;simp only [Instr.alloc,Sem.run_bind,h1,Result.andThen_ok]
 simpa using a5
theorem awg (I:Inv C ok w ρ h) {x:AV} {u:Value} (hx:V ok w x ρ u) (hb:x≠ .bot) (e:cU h (.cells x.cells (t+1)) κ=some rs):Ef P C ok w ρ h κ rs (Instr.box t u):=afi I (afs hx hb) (.inr rfl) e
end
section
variable {P:Program} {C:Cx} {ok:Nat→Prop} {w:World} {ρ:Rho} {h:AH} {κ:Ka} {rs:Rs} {t:Nat} {ti:TI}
theorem atB {v:AV} (hv:v.nb=true):v≠ .bot:=by rintro rfl;cases hv
theorem sF (off:Nat): ∀(l:List Value) (k:Nat) (arr:Array Value),off+k+l.length≤arr.size→
 ((l.zipIdx k).foldl (fun (cs:Array Value) p=>cs.setIfInBounds (off+p.2) p.1) arr).toList=arr.toList.take (off+k)++l++arr.toList.drop (off+k+l.length)
 |[],k,arr,_=>by simp
 |v::l,k,arr,hl=>by
  rw [List.zipIdx_cons,List.foldl_cons,sF off l (k+1) _ (by simp at hl ⊢;omega)]
  have e:=list_seg_step arr.toList (off+k) v l (by simp at hl ⊢;omega)
  simpa [B0,Cq] using e
theorem aoF (off:Nat) (x arr:Array Value) (hl:off+x.size≤arr.size):
 (x.zipIdx.foldl (fun (cs:Array Value) p=>cs.setIfInBounds (off+p.2) p.1) arr).toList=arr.toList.take off++x.toList++arr.toList.drop (off+x.size):=by
 rw [←Array.foldl_toList]
 have:x.zipIdx.toList=x.toList.zipIdx 0:=by simp
 rw [this,sF off x.toList 0 arr (by simpa using hl)]
 simp
def VP (ok:Nat→Prop) (w:World) (ρ:Rho):List (Nat×AV)→List (Nat×Value)→Prop
 |[],[]=>True
 |p::r,q::s=>p.1=q.1∧V ok w p.2 ρ q.2∧VP ok w ρ r s
 |_,_=>False
theorem zT {place:Nat→Option (Nat×Nat)} {pl:Nat→Option (Nat×Nat)} (hp: ∀i x,place i=some x→pl i=some x): ∀{n:Nat} {ps:List (Nat×AV)} {qs:List (Nat×Value)} {cs cs':List AV} {arr:Array Value},
 n=cs.length→VP ok w ρ ps qs→VL ok w cs ρ arr.toList→aaW place n cs ps=some cs'→ ∃arr',Instr.fill pl arr qs=some arr'∧VL ok w cs' ρ arr'.toList∧arr'.size=arr.size
 |_,[],[],cs,cs',arr,_,_,hv,e=>by cases e;exact ⟨arr,rfl,hv,rfl⟩
 |_,[],_::_,_,_,_,_,h,_,_=>h.elim
 |_,_::_,[],_,_,_,_,h,_,_=>h.elim
 |n,(i,v)::ps,(j,u)::qs,cs,cs',arr,hn,hq,hv,e=>by
  obtain ⟨h1,h2,h3⟩:=hq;simp only at h1 h2;subst h1;simp only [aaW] at e
  split at e
  ·cases e
  ·rename_i off size hpl
   obtain ⟨e1,e2⟩:=aB e;simp only [Ba] at e1;obtain ⟨e11,e12,e13⟩:=e1;have e12:=A8 e12;have e13:=Be e13;rw [ah] at e12;have hc:=afs h2 (atB e11);have hcl:=cm hc;have hal:=cm hv;have e13:off+size≤cs.length:=hn▸e13;simp only [Bt] at hcl hal;have hle:off+u.cells.size≤arr.size:=by omega
   have hs:=aoF off u.cells arr hle;have hvl:VL ok w (fK cs off v.cells) ρ (u.cells.zipIdx.foldl (fun (cs:Array Value) p=>cs.setIfInBounds (off+p.2) p.1) arr).toList:=by
    rw [hs,agE,hcl];exact gH (gH (pN off hv) hc) (tT _ hv)
   obtain ⟨arr',k1,k2,k3⟩:=zT hp (by have:=cm hvl;rw [hs] at this;simp at this;omega) h3 hvl e2
   refine ⟨arr',?_,k2,?_⟩
   ·simp only [Instr.fill,hp _ _ hpl]
    rw [if_neg]
    ·exact k1
    ·simp;omega
   ·rw [k3,←Bt,hs]
    simp
    omega
theorem yS {place:Nat→Option (Nat×Nat)} {pl:Nat→Option (Nat×Nat)} (hp: ∀i x,place i=some x→pl i=some x) {ps:List (Nat×AV)} {qs:List (Nat×Value)} {cs cs':List AV} {arr:Array Value}
 (h1:VP ok w ρ ps qs) (h2:VL ok w cs ρ arr.toList) (e:aal place cs ps=some cs'): ∃arr',Instr.fill pl arr qs=some arr'∧VL ok w cs' ρ arr'.toList∧arr'.size=arr.size:=
 zT hp (ah cs) h1 h2 e
theorem lZ (TY: ∀t ti,C.ty t=some ti→dm P t ti) (T:dm P t ti) {fs:List (Nat×Nat)} (hk:ti.kind= .struct fs) (ha:gh (fun p=>(C.ty p.2).isSome) fs=true) {ps:List (Nat×AV)} {qs:Array (Nat×Value)} (hp:VP ok w ρ ps qs.toList)
 (e:dX (placeOf C fs) ti.zero ps h κ=some rs):Pu P ok w ρ h κ rs (Instr.build t qs):=by
 obtain ⟨cs,e1,e2⟩:=ai e;have hu:=T.und;rw [hk] at hu;obtain ⟨F,hu,hfs⟩:=hu;obtain ⟨i,z,h1,h2,h3,h4,h5,h6,h7⟩:=T.info;have agg:ti.agg=true:=by rw [T.agg,hk]
 obtain ⟨us,rfl⟩:=h6 agg;have places: ∃pl:List (Nat×Nat),F.toList.mapM (fun f=>(P.info? f.type).map fun i=>(f.offset,i.size))=some pl∧ ∀i x,placeOf C fs i=some x→pl[i]? =some x:=by
  have gen: ∀(L:List Field),gh (fun p:Nat×Nat=>(C.ty p.2).isSome) (L.map fun f=>(f.offset,f.type))=true→ ∃pl:List (Nat×Nat),L.mapM (fun f=>(P.info? f.type).map fun i=>(f.offset,i.size))=some pl∧
   ∀i x,placeOf C (L.map fun f=>(f.offset,f.type)) i=some x→pl[i]? =some x:=by
   intro L
   induction L with
   |nil=>intro _;exact ⟨[],rfl,fun i x e=>by simp [placeOf,bI] at e⟩
   |cons f L ih=>
    intro ha;have ha:and (C.ty f.type).isSome (gh (fun p:Nat×Nat=>(C.ty p.2).isSome) (L.map fun f=>(f.offset,f.type)))=true:=ha;rw [Ba] at ha;obtain ⟨ui,hui⟩:=CD.1 ha.1;obtain ⟨i,z,g1,g2,_⟩:=(TY _ _ hui).info;obtain ⟨pl,k1,k2⟩:=ih ha.2;refine ⟨(f.offset,ui.size)::pl,by simp [List.mapM_cons,g1,k1,g2],fun j x e=>?_⟩
    cases j with
    |zero=>simp [placeOf,bI,hui] at e;simp [e]
    |succ j=>
     simp only [BA];refine k2 j x ?_
     simpa [placeOf,bI] using e
  obtain ⟨pl,k1,k2⟩:=gen F.toList (hfs▸ha);exact ⟨pl,k1,fun i x e=>k2 i x (hfs▸e)⟩
 obtain ⟨pl,k1,k2⟩:=places;obtain ⟨arr',f1,f2,f3⟩:=yS k2 hp (h5 ok w ρ) e1;refine ⟨_,.agg arr',e2,by simp only [V];exact ⟨arr',rfl,f2⟩,?_⟩;refine run_build w t qs arr' ?_;simp only [Program.built,h1,hu,h4,k1]
 simpa using f1
theorem nt (T:dm P t ti) {n el:Nat} {ei:TI} (hk:ti.kind= .array n el) (Te:dm P el ei) {ps:List (Nat×AV)} {qs:Array (Nat×Value)} (hp:VP ok w ρ ps qs.toList)
 (e:dX (fun i=>some (Nat.mul i ei.size,ei.size)) ti.zero ps h κ=some rs):Pu P ok w ρ h κ rs (Instr.build t qs):=by
 obtain ⟨cs,e1,e2⟩:=ai e;have hu:=T.und;rw [hk] at hu;simp only [kg] at hu;obtain ⟨i,z,h1,h2,h3,h4,h5,h6,h7⟩:=T.info;obtain ⟨j,y,g1,g2,_⟩:=Te.info;have agg:ti.agg=true:=by rw [T.agg,hk]
 obtain ⟨us,rfl⟩:=h6 agg;obtain ⟨arr',f1,f2,f3⟩:=yS (pl:=fun i=>some (i*j.size,j.size)) (fun i x e=>by rw [g2];exact e) hp (h5 ok w ρ) e1;refine ⟨_,.agg arr',e2,by simp only [V];exact ⟨arr',rfl,f2⟩,?_⟩;refine run_build w t qs arr' ?_;simp only [Program.built,h1,hu,h4,g1];exact f1
theorem ack {z:List AV} {zs:Array Value} (hz:VL ok w z ρ zs.toList) (hn:zs.size≠0): ∀n:Nat,VL ok w (nv z n) ρ ((List.range (n*zs.size)).map (fun i=>zs[i%zs.size]!))
 |0=>by show VL ok w [] ρ _;simp [VL]
 |n+1=>by
  show VL ok w (av z (nv z n)) ρ _;rw [aV]
  have:(List.range ((n+1)*zs.size)).map (fun i=>zs[i%zs.size]!)=zs.toList++(List.range (n*zs.size)).map (fun i=>zs[i%zs.size]!):=by
   rw [show (n+1)*zs.size=zs.size+n*zs.size by rw [CG];omega,List.range_add,Co]
   congr 1
   ·apply Cz
    intro j
    by_cases hj:j<zs.size
    ·simp [hj,Dk hj]
    ·simp [hj]
   ·rw [Ds]
    apply List.map_congr_left;intro j _
    simp
  rw [this];exact gH hz (ack hz hn n)
theorem om (T:dm P t ti): ∃z:Value,z.cells.size=ti.size∧(∀ok w ρ,VL ok w ti.zero ρ z.cells.toList)∧ ∀w,(zeroValue t).run P w= .ok z w:=by
 obtain ⟨i,z,h1,h2,h3,h4,h5,h6,h7⟩:=T.info;have hl:=cm (h5 (fun _=>True) default ρ0);rw [T.zlen] at hl;exact ⟨z,by simpa using hl,h5,fun w=>by simp [zeroValue,typeInfo,h1,h4]⟩
theorem ab4 (T:dm P t ti) (hz:ti.size≠0) {zs:Array Value} (h1:zs.size=ti.size) (h2:VL ok w ti.zero ρ zs.toList) (n:Nat):
 VL ok w (nv ti.zero n) ρ ((Array.range (n*ti.size)).map (fun i=>(if n*ti.size=0 then #[] else zs)[i%(if n*ti.size=0 then (#[]:Array Value) else zs).size]!)).toList:=by
 by_cases hn:n*ti.size=0
 ·have:n=0:=by rcases Nat.mul_eq_zero.1 hn with h|h<;>omega
  subst this
  simp [nv,VL]
 ·have:=ack (ok:=ok) (w:=w) h2 (by omega) n
  simp only [hn,if_false,h1] at this ⊢
  simpa using this
theorem aaC {z n:Nat} {cs:List AV} {y:Nat} (hl:cs.length=n*z):BEq (.cells cs y) (sQ z n cs y):=by
 unfold sQ
 cases Nat.blt 64 z with
 |false=>exact fun _ _ _ _=>Iff.rfl
 |true=>exact BEq.cells (vm z n cs hl) (rL z n cs hl)
theorem rV (zero:List AV): ∀n:Nat,(aU n zero).flatten=nv zero n
 |0=>rfl
 |n+1=>by show (zero::aU n zero).flatten=av zero (nv zero n);rw [aV,BL,rV zero n]
theorem ajq {z n:Nat} {zero:List AV} {y:Nat} (hz:zero.length=z):BEq (.cells (nv zero n) y) (bq (Nat.blt 64 z) (.rows z (aU n zero) y) (.cells (nv zero n) y)):=by
 cases Nat.blt 64 z with
 |false=>exact fun _ _ _ _=>Iff.rfl
 |true=>exact BEq.cells (fun l hl=>by rw [gL] at hl;rw [(List.mem_replicate.1 hl).2];exact hz) (rV zero n)
theorem arG {el:Nat} {ei:TI} (hu:P.underlying t=some (.slice el)) (Te:dm P el ei) (hz:ei.size≠0) (I:Inv C ok w ρ h) {n:Nat} {ps:List (Nat×AV)} {qs:Array (Nat×Value)} (hp:VP ok w ρ ps qs.toList)
 (e:fA ei.size n ei.zero ps h κ=some rs):Ef P C ok w ρ h κ rs (Instr.buildSlice t n qs):=by
 obtain ⟨e1,e2⟩:=aB e;obtain ⟨cs,e3,e4⟩:=ai e2;have e1:n*ei.size≤16777216:=Be e1;obtain ⟨zs,z1,z2,z3⟩:=om (P:=P) Te;have hv:=ab4 (ok:=ok) (w:=w) Te hz z1 (z2 ok w ρ) n;obtain ⟨arr',f1,f2,f3⟩:=yS (pl:=fun i=>some (i*ei.size,ei.size)) (fun i x e=>e) hp hv e3;obtain ⟨E,I'⟩:=zu (el:=el) I f2 (.inl rfl);have hsz:arr'.size=n*ei.size:=by rw [f3];simp
 have hB:=(dW.refl h).app (aaC (z:=ei.size) (n:=n) (cs:=cs) (y:=0) (by have:=cm f2;simp at this;omega))
 refine ⟨.slo (ag h) 0 n n ei.size true,_,.slice (some ⟨w.heap.size,0,none⟩) n n,_,_,_,e4,E.heq (dW.refl h) hB,I'.heq hB,?_,?_⟩
 ·rw [ah]
  simp only [V];exact ⟨w.heap.size,n,by simp [cG],rfl,rfl,A9 _,el,arr'.size,by simp [World.shape?],by omega⟩
 ·have: ¬(n*ei.size>2^24):=by omega
  simp only [Instr.buildSlice,Sem.run_bind,underlying,run_program,Result.andThen_ok,hu,Sem.run_pure,Te.cz,this,if_false,Sem.run_ite]
  by_cases hn:n*ei.size=0
  ·simp only [hn,if_true] at f1
   simp only [hn,if_true,Sem.run_bind,Sem.run_pure,Result.andThen_ok,f1]
   simp [newRow]
  ·simp only [hn,if_false] at f1
   simp only [hn,if_false,Sem.run_bind,Sem.run_pure,Result.andThen_ok,z3,f1]
   simp [newRow]
theorem wrap_small {k:Nat} (hk:k≤1099511627776):IntKind.i64.wrap (Int.ofNat k)=Int.ofNat k:=af5 .i64 k (by show k≤9223372036854775807;omega)
theorem aqv {el:Nat} {ei:TI} (hu:P.underlying t=some (.slice el)) (Te:dm P el ei) (hz:ei.size≠0) (I:Inv C ok w ρ h) {x y:AV} {u v:Value} (hx:V ok w x ρ u) (hy:V ok w y ρ v)
 (e:adz ei.size ei.bytes ei.zero x y h κ=some rs):Ef P C ok w ρ h κ rs (Instr.makeSlice t u v):=by
 obtain ⟨k,a,rfl,e1⟩:=cj e;obtain ⟨k',b,rfl,e2⟩:=cj e1;obtain ⟨l,rfl,e3⟩:=kH e2;obtain ⟨c,rfl,e4⟩:=kH e3;obtain ⟨e5,e6⟩:=aB e4;simp only [Ba] at e5;obtain ⟨⟨c1,c2⟩,c3,c4,c5⟩:=e5;have c3:=Be c3;have c4:ei.bytes*c≤1099511627776:=Be c4;have c5:=Be c5;simp only [V] at hx hy;obtain ⟨ka,rfl,rfl⟩:=hx;obtain ⟨kb,rfl,rfl⟩:=hy;obtain ⟨zs,z1,z2,z3⟩:=om (P:=P) Te;have hv:=ab4 (ok:=ok) (w:=w) Te hz z1 (z2 ok w ρ) c;obtain ⟨E,I'⟩:=zu (el:=el) I hv (.inl rfl);obtain ⟨i,i1,i2,i3⟩:=Te.ru (w:=w);have hB:=(dW.refl h).app (ajq (z:=ei.size) (zero:=ei.zero) (n:=c) (y:=0) Te.zlen);refine ⟨.slo (ag h) 0 l c ei.size true,_,.slice (some ⟨w.heap.size,0,none⟩) l c,_,_,_,e6,E.heq (dW.refl h) hB,I'.heq hB,?_,?_⟩
 ·rw [ah]
  simp only [V];refine ⟨w.heap.size,c,by simp [cG],rfl,rfl,c3,el,_,by simp [World.shape?];rfl,by simp⟩
 ·simp only [Instr.makeSlice,Sem.run_bind,underlying,run_program,Result.andThen_ok,hu,Sem.run_pure,asInt,asIntOf,i1,wrap_small (Bo c3 c5),wrap_small c5,i2]
  have q1: ¬((Int.ofNat c)<0):=by simp
  have q2: ¬((ei.bytes:Int)*(Int.ofNat c)>2^48):=by
   have:(ei.bytes:Int)*(Int.ofNat c)=((ei.bytes*c:Nat):Int):=by simp
   rw [this];omega
  have q3: ¬((Int.ofNat l)<0):=by simp
  have q4: ¬((Int.ofNat l)>(Int.ofNat c)):=by simp;exact c3
  simp only [q1,q2,q3,q4,decide_false,Dq,Bool.or_self,BR,if_false,Dh,Int.toNat_natCast,Sem.run_bind,run_askRoom,Result.andThen_ok,Te.cz];simp only [Dh] at q1 q2 q3 q4;simp only [q1,q2,q3,q4,decide_false,Dq,Bool.or_self,BR,if_false,Sem.run_bind,Sem.run_pure,run_askRoom,Result.andThen_ok,Te.cz]
  by_cases hn:c*ei.size=0
  ·simp [hn,newRow]
  ·simp [hn,newRow,z3]
end
section
variable {P:Program} {C:Cx} {ok:Nat→Prop} {w:World} {ρ:Rho} {h:AH} {κ:Ka} {rs:Rs} {t:Nat} {ti:TI}
theorem aiv (l:List Nat):lR l=l.map (fun n=>.int 255 (.ofNat n)):=dA _ _
theorem yA: ∀(l:List UInt8),VL ok w (lR (l.map UInt8.toNat)) ρ (l.map (fun b=>Value.int .u8 b.toNat))
 |[]=>by show VL ok w [] ρ [];simp [VL]
 |a::l=>by
  show VL ok w (.int 255 (.ofNat a.toNat)::lR (l.map UInt8.toNat)) ρ (.int .u8 a.toNat::l.map (fun b=>Value.int .u8 b.toNat));simp only [VL];exact ⟨_,_,rfl,eE .u8 _,yA l⟩
theorem qH (I:Inv C ok w ρ h) {sz n:Nat} {x:AV} {u:Value} {l:List AV} (hx:V ok w x ρ u) (hn:qB x=some n) (m:Nat) (e:eo h sz m x=some l):
 (Builtin.lenOf u).run P w= .ok n w∧ ∃us:List Value,VL ok w l ρ us∧(Builtin.firstCells sz m u).run P w= .ok us.toArray w∧(∀s,u= .string s→sz=1∨True):=by
 cases x<;>try (cases hn;done)
 case str s=>
  cases hn
  simp only [V] at hx;obtain ⟨S,rfl,rfl⟩:=hx;obtain ⟨e1,e2⟩:=aB e
  cases e2
  refine ⟨by rw [ah];simp [Builtin.lenOf],((S.extract 0 m).data.map fun b=>Value.int .u8 b.toNat).toList,?_,?_,fun _ _=>.inr trivial⟩
  ·rw [aS]
   have:((S.extract 0 m).data.map fun b=>Value.int .u8 b.toNat).toList=(S.data.toList.take m).map fun b=>Value.int .u8 b.toNat:=by
    simp [CV,Di]
   rw [this,←List.map_take];exact yA _
  ·simp only [Builtin.firstCells,Sem.run_pure,Array.toArray_toList]
 case aa=>
  cases hn
  simp only [V] at hx;subst hx;obtain ⟨e1,e2⟩:=aB e
  cases e2
  exact ⟨by simp [Builtin.lenOf],[],by simp [VL],by simp [Builtin.firstCells],fun _ c=>by cases c⟩
 case sle=>
  cases hn
  simp only [V] at hx;obtain ⟨a,c,rfl⟩:=hx;obtain ⟨e1,e2⟩:=aB e
  cases e2
  have:=A8 e1
  subst this;exact ⟨by simp [Builtin.lenOf],[],by simp [VL],by simp [Builtin.firstCells,loadCells,loadCellsFrom],fun _ c=>by cases c⟩
 case slp cs k=>
  cases hn
  simp only [V] at hx;obtain ⟨r,q,c,h1,rfl,h2,h3⟩:=hx;obtain ⟨e1,e2⟩:=aB e
  cases e2
  have e1:m*sz≤ag cs:=Be e1;rw [ah] at e1;rw [aS];obtain ⟨us,k1,k2,k3⟩:=nR (P:=P) (fS (m*sz) h3);have hl:(cs.take (m*sz)).length=m*sz:=by simp;omega
  rw [hl] at k3;exact ⟨by simp [Builtin.lenOf],us,k1.sub (fun _ _ h=>by cases h),by simp [Builtin.firstCells,k3],fun _ c=>by cases c⟩
 case slo b o l' c z ex=>
  cases hn
  simp only [eo] at e
  split at e
  ·rename_i cs _ hb
   obtain ⟨e1,e2⟩:=aB e
   cases e2
   have e1:o+m*sz≤ag cs:=Be e1;rw [ah] at e1;simp only [V] at hx;obtain ⟨r,c',h1,rfl,_⟩:=hx;obtain ⟨r',g1,g2,arr,et,fr,g3,g4,g5,_⟩:=I.live b _ hb;rw [h1] at g1;cases g1;rw [aS,bt];obtain ⟨us,k1,k2,k3⟩:=nR (P:=P) (fS (m*sz) (ib o g5));have hl:((cs.drop o).take (m*sz)).length=m*sz:=by simp;omega
   have k3':(loadCells ⟨r,o,none⟩ (m*sz)).run P w= .ok us.toArray w:=by
    have e:(List.take (m.mul sz) (List.drop o cs)).length=m*sz:=hl;rw [show (cs.drop o).take (m*sz)=List.take (m.mul sz) (List.drop o cs) from rfl,e,BE] at k3;exact k3
   exact ⟨by simp [Builtin.lenOf],us,k1,by simp [Builtin.firstCells,k3'],fun _ c=>by cases c⟩
  ·rename_i z' ll _ hb
   obtain ⟨e1,e2⟩:=aB e
   cases e2
   simp only [Ba] at e1;obtain ⟨⟨a1,a2⟩,a3,a4⟩:=e1;have a1:=A8 a1;subst a1;have a2:o%z'=0:=A8 a2;have a4:o/z'+m≤ag ll:=Be a4;rw [ah] at a4;simp only [V] at hx;obtain ⟨r,c',h1,rfl,_⟩:=hx;obtain ⟨r',g1,g2,g0,arr,et,fr,g3,g4,g5,_⟩:=I.live b _ hb;rw [h1] at g1;cases g1;have ho:o/z'*z'=o:=by rw [Db];have:=CM o z';omega
   have hcs:wg (cE m (cL (Nat.div o z') ll))=(ll.flatten.drop o).take (m*z'):=by
    rw [pO,aS,bt,nW m fun l hl=>g0 l (BY hl),oy _ g0];show List.take _ (List.drop (o/z'*z') _)=_;rw [ho]
   rw [hcs];have hle:o+m*z'≤ll.flatten.length:=by
    rw [qh g0]
    have:=BQ z' a4
    rw [CG,ho] at this;exact this
   obtain ⟨us,k1,k2,k3⟩:=nR (P:=P) (fS (m*z') (ib o g5));have hl:((ll.flatten.drop o).take (m*z')).length=m*z':=by simp only [Bq,Bi];omega
   rw [hl,BE] at k3;exact ⟨by simp [Builtin.lenOf],us,k1,by simp [Builtin.firstCells,k3],fun _ c=>by cases c⟩
  ·cases e
theorem aan (w:World) (o:Obj) (n:Nat):((w.heap.push o).modify w.heap.size fun| .cells c elem (lo,hi)=>.cells c elem (if lo==hi then (n,n+1) else (min lo n,max hi (n+1)))|o=>o)=
 w.heap.push (match o with| .cells c elem (lo,hi)=>.cells c elem (if lo==hi then (n,n+1) else (min lo n,max hi (n+1)))|o=>o):=by
 apply Array.ext
 ·simp
 ·intro i h1 h2
  rw [Array.getElem_modify];simp only [Array.getElem_push]
  split
  ·next e=>subst e;simp
  ·next e=>
   have:i<w.heap.size:=by simp at h1;omega
   simp [this]
theorem zo (w:World) {r:Nat} {arr:Array Value} {e:TypeId} {fr:Nat×Nat} (h:w.heap[r]? =some (.cells arr e fr)) (n:Nat):
 (w.freeze ⟨r,n,none⟩ 1).heap[r]? =some (.cells arr e (if fr.1==fr.2 then (n,n+1) else (min fr.1 n,max fr.2 (n+1))))∧(∀k,k≠r→(w.freeze ⟨r,n,none⟩ 1).heap[k]? =w.heap[k]?)∧(w.freeze ⟨r,n,none⟩ 1).heap.size=w.heap.size:=by
 unfold World.freeze;simp only [Nat.succ_ne_self,if_false,Nat.one_ne_zero];refine ⟨?_,fun k hk=>?_,by simp⟩
 ·rw [C6,if_pos rfl,h];rfl
 ·rw [C6,if_neg (fun c=>hk c.symm)]
theorem arD {s el:Nat} (hs:P.underlying s=some (.slice el)) (he:P.underlying el=some (.int .u8)) (I:Inv C ok w ρ h) {x:AV} {u:Value} (hx:V ok w x ρ u)
 (e:awr x h κ=some rs):Ef P C ok w ρ h κ rs (convert s s u):=by
 rcases fq (show mz x none _ _=some rs from e) with ⟨_,h⟩|⟨_,h⟩|⟨b,o,l,c,z,ex,rfl,e1⟩|⟨_,_,_,h⟩
 ·cases h
 ·cases h
 ·obtain ⟨cs,y,hb,e2⟩:=lX e1
  have hx':=hx;simp only [V] at hx;obtain ⟨r,c',h1,rfl,_⟩:=hx;obtain ⟨r',g1,g2,arr,et,fr,g3,g4,g5,g6,g7⟩:=I.live b _ hb;rw [h1] at g1;cases g1;obtain ⟨f1,f2,f3⟩:=zo w g3 arr.size;have hfr: ∀fr':Nat×Nat,(if fr.1==fr.2 then (arr.size,arr.size+1) else (min fr.1 arr.size,max fr.2 (arr.size+1)))=fr'→fr'.1=fr'.2∨arr.size≤fr'.1:=by
   intro fr' hf
   by_cases hq:fr.1=fr.2
   ·rw [if_pos (by simpa using hq)] at hf;subst hf;exact .inr (A9 _)
   ·rw [if_neg (by simpa using hq)] at hf;subst hf
    exact .inr (by show arr.size≤min fr.1 arr.size;omega)
  obtain ⟨a1,a2⟩:=nP g3 cs g5;rw [BF] at a1;obtain ⟨E,I'⟩:=Ext.write (b':=.cells cs y) I hb h1 f3 f2 (fun s' hs'=>by
   have:w.shape? r=some (et,arr.size):=by simp [World.shape?,g3]
   rw [this] at hs'
   cases hs'
   simp [World.shape?,f1]) rfl rfl rfl (fun U=>⟨arr,et,_,f1,fun i hi=>by have:=hfr _ rfl;omega,by
    refine kY f1 cs (VL.up cs U a1) ?_;rw [BF]
    first|rw [cm a1]|rw [←cm a1]|simp,g6,hfr _ rfl⟩)
  have hself:bH (some (.cells cs y)) h b=h:=by
   rw [cK];apply Cz;intro i;rw [Ck]
   split
   ·rename_i hi
    subst hi;have hl:=cJ (show ab h b≠none by rw [hb];simp);rw [if_pos hl];rw [bE] at hb
    cases hg:h[b]? with
    |none=>rw [hg] at hb;cases hb
    |some q=>rw [hg] at hb;simp at hb;rw [hb]
   ·rfl
  rw [hself] at E I';refine ⟨_,_,_,ok,_,ρ,e2,E,I',V.up _ E.up hx',?_⟩
  simp [convert,underlying,hs,he,markStringish,World.shape?,g3]
 ·cases h
theorem aaN {s d el:Nat} (hs:P.underlying s=some .string) (hd:P.underlying d=some (.slice el)) (he:P.underlying el=some (.int .u8)) (I:Inv C ok w ρ h) {x:AV} {u:Value} (hx:V ok w x ρ u)
 (e:ux x h κ=some rs):Ef P C ok w ρ h κ rs (convert s d u):=by
 obtain ⟨l,rfl,e1⟩:=fj e;simp only [V] at hx;obtain ⟨S,rfl,rfl⟩:=hx
 let q:=Question.appendCap S.size 0 el
 let cap:=q.cut (w.tape w.drawn q)
 have hcap:S.size≤cap:=Nat.le_add_right _ _
 let arr:Array Value:=S.data.map (fun b=>Value.int .u8 b.toNat)++Array.replicate (cap-S.size) (.int .u8 0)
 have hsz:arr.size=cap:=by
  have:S.data.size=S.size:=rfl
  simp [arr,this];omega
 obtain ⟨E0,I0⟩:=Ext.drew I (w.drawn+1)
 let w0:World:={w with drawn:=w.drawn+1}
 have hv:VL ok w0 (lR (S.data.toList.map UInt8.toNat)) ρ (arr.toList.take (lR (S.data.toList.map UInt8.toNat)).length):=by
  have h1:(lR (S.data.toList.map UInt8.toNat)).length=S.data.size:=by rw [aiv];simp
  rw [h1];have h2:arr.toList.take S.data.size=S.data.toList.map (fun b=>Value.int .u8 b.toNat):=by
   simp [arr]
  rw [h2];exact yA _
 obtain ⟨E1,I1⟩:=rW (w':={w0 with heap:=w0.heap.push (.cells arr el (arr.size,arr.size+1))}) I0 (arr.size,arr.size+1) (.inr (A9 _)) rfl rfl rfl rfl hv (.inl rfl);have E:=Ext.trans I E0 E1;refine ⟨_,_,.slice (some ⟨w.heap.size,0,none⟩) S.size cap,_,_,_,e1,E,I1,?_,?_⟩
 ·rw [ah,ah]
  simp only [V];have hln:(S.data.toList.map UInt8.toNat).length=S.size:=by simp
  refine ⟨w.heap.size,cap,by simp [cG,w0],?_,?_,by rw [hln];exact hcap,el,arr.size,?_,?_⟩
  ·congr 1;simp
  ·simp only [BR,if_false]
   have:(S.data.toList.map UInt8.toNat).length=S.size:=by simp
   omega
  ·simp [World.shape?,w0]
  ·omega
 ·have hf:q.forced=false:=rfl
  have key: ∀arr:Array Value,((do let a ←newRow el arr;markStringish a;pure (.slice (some a) S.size cap):Sem Value).run P w0)= .ok (.slice (some ⟨w.heap.size,0,none⟩) S.size cap) {w0 with heap:=w0.heap.push (.cells arr el (arr.size,arr.size+1))}:=by
   intro arr;simp only [newRow,Sem.run_bind,run_newObj,Result.andThen_ok,Sem.run_pure,markStringish,run_shape];have hsh:({w0 with heap:=w0.heap.push (.cells arr el)}:World).shape? w0.heap.size=some (el,arr.size):=by simp [World.shape?]
   rw [hsh];simp only [run_freeze,Result.andThen_ok,Sem.run_pure,World.freeze];simp only [Nat.succ_ne_self,if_false,Nat.one_ne_zero]
   congr 2
   exact aan w0 (.cells arr el) arr.size
  have hc:(convert s d (.string S)).run P w=((do let a ←newRow el arr;markStringish a;pure (.slice (some a) S.size cap):Sem Value).run P w0):=by
   simp only [convert,Sem.run_bind,underlying,run_program,Result.andThen_ok,hs,hd,he,Sem.run_pure,Conv.stringToBytes,run_choose,show (Question.appendCap S.size 0 el).forced=false from rfl,BR,if_false];rfl
  rw [hc,key]
theorem abD {v:AV} {n:Nat} {u:Value} (e:lB v=some n) (hv:V ok w v ρ u):u= .int .u8 (.ofNat n)∧n<256:=by
 cases v<;>try (cases e;done)
 rename_i k i
 cases i with
 |negSucc i=>cases e
 |ofNat i=>
  obtain ⟨e1,e2⟩:=aB e
  cases e2
  rw [Ba] at e1;have e3:n<256:=by simpa [Ce] using e1.2
  simp only [V] at hv;obtain ⟨k',rfl,rfl⟩:=hv
  have:=dM (b:=.u8) e1.1
  subst this;exact ⟨rfl,e3⟩
theorem sf {α:Type} {a:Option α} {r:List (Option α)} {l:List α} (e:jD (a::r)=some l): ∃x y,a=some x∧jD r=some y∧l=x::y:=by
 cases a with
 |none=>cases e
 |some a=>
  simp only [jD] at e
  split at e
  ·rename_i y hy;cases e;exact ⟨a,y,rfl,hy,rfl⟩
  ·cases e
theorem uh: ∀{l:List AV} {b:List Nat} {us:List Value},bytesOf l=some b→VL ok w l ρ us→us=b.map (fun n=>.int .u8 (.ofNat n))∧ ∀n∈b,n<256
 |[],b,us,e,h=>by
  cases e
  simp only [VL] at h;subst h
  simp
 |v::l,b,us,e,h=>by
  have e:jD (lB v::dc lB l)=some b:=e;obtain ⟨x,y,e1,e2,rfl⟩:=sf e;simp only [VL] at h;obtain ⟨u,r,rfl,h1,h2⟩:=h;obtain ⟨k1,k2⟩:=abD e1 h1;obtain ⟨k3,k4⟩:=uh (l:=l) e2 h2;refine ⟨by rw [k1,k3];rfl,fun n hn=>?_⟩;rcases Bv.1 hn with hn|hn
  ·exact hn▸k2
  ·exact k4 n hn
theorem sO {s d el:Nat} (hs:P.underlying s=some (.slice el)) (hd:P.underlying d=some .string) (he:P.underlying el=some (.int .u8)) (I:Inv C ok w ρ h) {x:AV} {u:Value} (hx:V ok w x ρ u)
 (e:dD x h κ=some rs):Pu P ok w ρ h κ rs (convert s d u):=by
 obtain ⟨n,e1,e⟩:=ai e;obtain ⟨l,e2,e⟩:=ai e;obtain ⟨b,e3,e⟩:=ai e;obtain ⟨h1,us,h2,h3,_⟩:=qH (P:=P) I hx e1 n e2;obtain ⟨k1,k2⟩:=uh e3 h2;have hk:κ (.str b) h=some rs:=by
  rcases fq e with ⟨_,e⟩|⟨_,e⟩|⟨_,_,_,_,_,_,_,e⟩|⟨_,_,_,e⟩<;>exact e
 have hu:(u= .slice none 0 0∧b=[])∨ ∃a c,u= .slice (some a) n c:=by
  rcases fq e with ⟨rfl,_⟩|⟨rfl,_⟩|⟨_,_,_,_,_,_,rfl,_⟩|⟨_,_,rfl,_⟩
  ·cases e1
   simp only [V] at hx
   cases e2
   cases e3
   exact .inl ⟨hx,rfl⟩
  ·cases e1
   obtain ⟨a,c,rfl⟩:=aaZ hx;exact .inr ⟨a,c,rfl⟩
  ·cases e1
   obtain ⟨a,c,rfl⟩:=afu hx;exact .inr ⟨a,c,rfl⟩
  ·cases e1
   obtain ⟨a,c,rfl⟩:=xT hx;exact .inr ⟨a,c,rfl⟩
 refine ⟨_,.string ⟨(b.map UInt8.ofNat).toArray⟩,hk,?_,?_⟩
 ·simp only [V]
  refine ⟨_,rfl,?_⟩;simp only [Ds]
  symm
  conv=>rhs;rw [←List.map_id b]
  apply List.map_congr_left;intro m hm
  simp [UInt8.toNat_ofNat',Dk (k2 m hm)]
 ·rcases hu with ⟨rfl,rfl⟩|⟨a,c,rfl⟩
  ·simp [convert,underlying,hs,hd,he,Conv.bytesToString]
   rfl
  ·have h3:(loadCells a n).run P w= .ok us.toArray w:=by simpa [Builtin.firstCells] using h3
   rw [run_convert_bytes_string w s d el (some a) n c hs he hd,run_bytesToString w a n c (b.map Int.ofNat) (by rw [h3,k1];simp [Ds]),foldl_push_bytes]
   simp [Ds]
end
section
variable {P:Program} {C:Cx} {ok:Nat→Prop} {w:World} {ρ:Rho} {h:AH} {κ:Ka} {rs:Rs} {t:Nat} {ti:TI}
theorem xv (n:Nat): ∀(k c:Nat),256≤c→c≤2*n→Builtin.growBy n k c≤2*n
 |0,c,_,h=>h
 |k+1,c,h1,h2=>by
  unfold Builtin.growBy
  split
  ·exact h2
  ·exact xv n k _ (by omega) (by omega)
theorem ad8 {n c:Nat} (h:c<n):Builtin.nextslicecap n c≤2*n:=by
 unfold Builtin.nextslicecap
 split
 ·omega
 ·split
  ·omega
  ·exact xv n 4 c (by omega) (by omega)
def drew (w:World):World:={w with drawn:=w.drawn+1}
theorem amh {el u':Nat} {ei:TI} {d':TypeDesc} (hu:P.underlying t=some (.slice el)) (Te:dm P el ei) (hz:ei.size≠0) (hby:ei.bytes≠0) {ts:Array TypeId} {ty:TypeId} (ht:ts[0]? =some t) (hu':ts[1]? =some u') (hd:P.underlying u'=some d') (hd': ∀k,d'≠ .int k)
 {base:Option Addr} {sLen sCap n:Nat} {x:Value} {old new:List Value} (hlen:(Builtin.lenOf x).run P w= .ok n w) (hneed:sCap<sLen+n) (hroom:kL ei.bytes (sLen+n)=true)
 (ho:(Builtin.firstCells ei.size sLen (.slice base sLen sCap)).run P (drew w)= .ok old.toArray (drew w)) (hn:(Builtin.firstCells ei.size n x).run P (drew w)= .ok new.toArray (drew w)):
 ∃(newCap:Nat) (rest:Array Value),sLen+n≤newCap∧rest.size=(newCap-(sLen+n))*ei.size∧
  (Builtin.append_ ts ty #[.slice base sLen sCap,x]).run P w= .ok (.slice (some ⟨w.heap.size,0,none⟩) (sLen+n) newCap) {drew w with heap:=w.heap.push (.cells (old.toArray++new.toArray++rest) el)}:=by
 obtain ⟨i,i1,i2,i3⟩:=Te.ru (w:=w);obtain ⟨z,z1,z2,z3⟩:=om (P:=P) Te;unfold kL at hroom;rw [Ba] at hroom;have r1:(sLen+n)*ei.bytes≤140737488355328:=Be hroom.1;have r2:sLen+n≤140737488355328:=Be hroom.2;have q1: ¬(Builtin.nextslicecap (sLen+n) sCap*ei.bytes>2^48):=by
  have:=ad8 hneed
  have:Builtin.nextslicecap (sLen+n) sCap*ei.bytes≤(2*(sLen+n))*ei.bytes:=BQ _ this
  rw [Nat.mul_assoc] at this;omega
 let q:=Question.appendCap (sLen+n) sCap el
 let cap:=q.cut (w.tape w.drawn q)
 have hcap:sLen+n≤cap:=Nat.le_add_right _ _;refine ⟨cap,Builtin.zeroCells z.cells (cap-(sLen+n)),hcap,by simp [Builtin.zeroCells,z1],?_⟩;have hmatch:(match d' with|TypeDesc.int _=>true|_=>false)=false:=by
  cases d'<;>first|rfl|exact absurd rfl (hd' _)
 have hn': ¬(sLen+n≤sCap):=by omega
 have i1':(typeInfo el).run P (drew w)= .ok i (drew w):=by
  obtain ⟨j,j1,_⟩:=Te.ru (w:=drew w);have e1: ∀w,(typeInfo el).run P w= .ok i w:=by
   obtain ⟨i0,z0,g1,_⟩:=Te.info
   have:(typeInfo el).run P w= .ok i0 w:=by simp [typeInfo,g1]
   rw [this] at i1
   cases i1
   intro w;simp [typeInfo,g1]
  exact e1 _
 have e0:(#[Value.slice base sLen sCap,x]:Array Value)[0]? =some (.slice base sLen sCap):=rfl;have e1:(#[Value.slice base sLen sCap,x]:Array Value)[1]? =some x:=rfl;unfold Builtin.append_;rw [ht,e0,e1,hu'];simp only [Sem.run_bind,underlying,run_program,Result.andThen_ok,hu,hd,Sem.run_pure,Te.cz,hmatch,BR,if_false,hlen,Sem.run_ite,hn',i1,i2,hby,or_self,and_false,q1];have hch:(choose (Question.appendCap (sLen+n) sCap el)).run P w= .ok cap (drew w):=by
  rw [run_choose];rfl
 rw [hch];simp only [Result.andThen_ok,i1',run_askRoom,ho,Bool.not_false,if_true,hn,z3,newRow,Sem.run_bind,run_newObj,Sem.run_pure];rfl
theorem agm (I:Inv C ok w ρ h):Ext ok w ρ h ok (drew w) ρ h∧Inv C ok (drew w) ρ h:=Ext.drew I (w.drawn+1)
theorem ub {el u':Nat} {ei:TI} {d':TypeDesc} (hu:P.underlying t=some (.slice el)) (Te:dm P el ei) (hz:ei.size≠0) (hby:ei.bytes≠0) {ts:Array TypeId} {ty:TypeId} (ht:ts[0]? =some t) (hu':ts[1]? =some u') (hd:P.underlying u'=some d') (hd': ∀k,d'≠ .int k)
 (I:Inv C ok w ρ h) {base:Option Addr} {sLen sCap n:Nat} {u:Value} {new old:List AV} (h1:(Builtin.lenOf u).run P w= .ok n w) (hdr: ∃us:List Value,VL ok (drew w) new ρ us∧(Builtin.firstCells ei.size n u).run P (drew w)= .ok us.toArray (drew w)) (hnl:new.length=n*ei.size) (hneed:sCap<sLen+n) (hroom:kL ei.bytes (sLen+n)=true)
 (ho: ∃os:List Value,VL ok w old ρ os∧(Builtin.firstCells ei.size sLen (.slice base sLen sCap)).run P (drew w)= .ok os.toArray (drew w)) (hol:old.length=sLen*ei.size)
 {yt:Nat} (hy:yt=0∨yt=el+1) {b:Nat} (e:κ (.slo (ag h) 0 (sLen+n) (sLen+n) ei.size false) (av (bH none h b) [some (.cells (old++new) yt)])=some rs∨κ (.slo (ag h) 0 (sLen+n) (sLen+n) ei.size false) (av h [some (.cells (old++new) yt)])=some rs):
 Ef P C ok w ρ h κ rs (Builtin.append_ ts ty #[.slice base sLen sCap,u]):=by
 obtain ⟨E0,I0⟩:=agm I;obtain ⟨us,h3,h4⟩:=hdr;obtain ⟨os,o1,o2⟩:=ho;obtain ⟨newCap,rest,c1,c2,c3⟩:=amh hu Te hz hby ht hu' hd hd' (ty:=ty) h1 hneed hroom o2 h4;have ol:=cm o1;have nl:=cm h3;have fin: ∀h1:AH,h1.length=h.length→Inv C ok (drew w) ρ h1→Ext ok (drew w) ρ h1 ok {drew w with heap:=w.heap.push (.cells (os.toArray++us.toArray++rest) el)} (cG ρ h1.length w.heap.size) (av h1 [some (.cells (old++new) yt)])∧
  Inv C ok {drew w with heap:=w.heap.push (.cells (os.toArray++us.toArray++rest) el)} (cG ρ h1.length w.heap.size) (av h1 [some (.cells (old++new) yt)]):=by
  intro h1 _ I1;refine rW (w:=drew w) I1 (0,0) (by simp) rfl rfl rfl rfl ?_ hy
  have:(os.toArray++us.toArray++rest).toList.take (old++new).length=os++us:=by
   simp only [Array.toList_append,A7,←ol,←nl];rw [←A7,List.take_left']
   simp
  rw [this];exact gH (E0.VL o1) h3
 have hv: ∀h1:AH,h1.length=h.length→V ok {drew w with heap:=w.heap.push (.cells (os.toArray++us.toArray++rest) el)} (.slo (ag h) 0 (sLen+n) (sLen+n) ei.size false) (cG ρ h1.length w.heap.size) (.slice (some ⟨w.heap.size,0,none⟩) (sLen+n) newCap):=by
  intro h1 hl1;rw [ah];simp only [V];refine ⟨w.heap.size,newCap,by simp [cG,hl1],rfl,by simpa using c1,c1,el,_,by simp [World.shape?];rfl,?_⟩;simp only [Array.size_append,List.size_toArray,c2,ol,nl,hol,hnl];rw [BE,←CG,←CG];exact BQ _ (by omega)
 rcases e with e|e
 ·obtain ⟨Ek,Ik⟩:=Ext.kill I0 b
  obtain ⟨E1,I1⟩:=fin (bH none h b) (cM _ _ _) Ik;exact ⟨_,_,_,_,_,_,e,Ext.trans I (Ext.trans I E0 Ek) E1,I1,hv _ (cM _ _ _),c3⟩
 ·obtain ⟨E1,I1⟩:=fin h rfl I0
  exact ⟨_,_,_,_,_,_,e,Ext.trans I E0 E1,I1,hv _ rfl,c3⟩
theorem pB {el u':Nat} {ei:TI} {d':TypeDesc} (hu:P.underlying t=some (.slice el)) (Te:dm P el ei) {ts:Array TypeId} {ty:TypeId} (ht:ts[0]? =some t) (hu':ts[1]? =some u') (hd:P.underlying u'=some d') (hd': ∀k,d'≠ .int k)
 {base:Option Addr} {sLen sCap n:Nat} {x:Value} {new:List Value} {w':World} (hlen:(Builtin.lenOf x).run P w= .ok n w) (hneed:sLen+n≤sCap) (hn:(Builtin.firstCells ei.size n x).run P w= .ok new.toArray w)
 (hs: ∀a,base=some a→(storeCells (a.add (sLen*ei.size)) new).run P w= .ok () w') (hb:base=none→w'=w):
 (Builtin.append_ ts ty #[.slice base sLen sCap,x]).run P w= .ok (.slice base (sLen+n) sCap) w':=by
 have hmatch:(match d' with|TypeDesc.int _=>true|_=>false)=false:=by
  cases d'<;>first|rfl|exact absurd rfl (hd' _)
 have e0:(#[Value.slice base sLen sCap,x]:Array Value)[0]? =some (.slice base sLen sCap):=rfl;have e1:(#[Value.slice base sLen sCap,x]:Array Value)[1]? =some x:=rfl;unfold Builtin.append_;rw [ht,e0,e1,hu'];simp only [Sem.run_bind,underlying,run_program,Result.andThen_ok,hu,hd,Sem.run_pure,Te.cz,hmatch,BR,if_false,hlen,Sem.run_ite,hneed,if_true,Bool.not_false,hn]
 cases base with
 |none=>rw [hb rfl];rfl
 |some a=>
  have:=hs a rfl
  simp only [Sem.run_bind,Dl,this,Result.andThen_ok,Sem.run_pure]
theorem ad6 {el u':Nat} {ei:TI} {d':TypeDesc} (hu:P.underlying t=some (.slice el)) (Te:dm P el ei) (hz:ei.size≠0) (hby:ei.bytes≠0) {ts:Array TypeId} {ty:TypeId} (ht:ts[0]? =some t) (hu':ts[1]? =some u') (hd:P.underlying u'=some d') (hd': ∀k,d'≠ .int k)
 (I:Inv C ok w ρ h) {b o l c yt n:Nat} {ex:Bool} {cs new:List AV} {us:List Value} {su u:Value} (hsv:V ok w (.slo b o l c ei.size ex) ρ su) (h1:(Builtin.lenOf u).run P w= .ok n w) (h2:VL ok w new ρ us) (h3:(Builtin.firstCells ei.size n u).run P w= .ok us.toArray w)
 (hdr: ∃us:List Value,VL ok (drew w) new ρ us∧(Builtin.firstCells ei.size n u).run P (drew w)= .ok us.toArray (drew w)) (e3:aO new=true) (e4:new.length=n*ei.size)
 (hb:ab h b=some (.cells cs yt)) (e7:apC (el+1) ei.size ei.bytes n new h κ b o l c ex cs yt=some rs):Ef P C ok w ρ h κ rs (Builtin.append_ ts ty #[su,u]):=by
 have ul:=cm h2;have hty:bq (Nat.beq yt (el+1)) (el+1) 0=0∨bq (Nat.beq yt (el+1)) (el+1) 0=el+1:=by
  cases Nat.beq yt (el+1)
  ·exact .inl rfl
  ·exact .inr rfl
 have hsv':=hsv;simp only [V] at hsv';obtain ⟨r,c',r1,rfl,r2,rlc,tt,N,r3,r4⟩:=hsv';have hcc:c≤c':=by cases ex<;>simp at r2<;>omega
 unfold apC at e7
 cases hc1:Nat.ble (Nat.add l n) c with
 |true=>
  rw [hc1,aA] at e7;have hc1:l+n≤c:=Be hc1;obtain ⟨e8,e9⟩:=aB e7;have e8:=Be e8;rw [ah] at e8;have e8:o+(l+n)*ei.size≤cs.length:=e8;rw [CG] at e8;obtain ⟨r',w',g1,g2,E,I'⟩:=og (P:=P) (o:=o+l*ei.size) I hb h2 (by omega) e3;rw [r1] at g1;cases g1;refine ⟨_,_,.slice (some ⟨r,o,none⟩) (l+n) c',_,_,_,e9,E,I',?_,?_⟩
  ·simp only [V]
   exact ⟨r,c',r1,rfl,r2,by show l+n≤c';omega,tt,N,E.up.shp _ _ r3,r4⟩
  ·refine pB hu Te ht hu' hd hd' h1 (by omega) h3 (fun a ha=>?_) (fun c=>by cases c)
   cases ha
   rw [eI];exact g2
 |false=>
  rw [hc1,aE] at e7;have hc1: ¬(l+n≤c):=fun k=>by
   have:Nat.ble (Nat.add l n) c=true:=BH k
   rw [hc1] at this;cases this
  obtain ⟨e8,e9⟩:=aB e7;simp only [Ba] at e8;obtain ⟨⟨e81,e82⟩,e83⟩:=e8;have e82:=Be e82;rw [ah] at e82;have e82:o+l*ei.size≤cs.length:=e82;rw [show av (cE (Nat.mul l ei.size) (cL o cs)) new=(cs.drop o).take (Nat.mul l ei.size)++new by rw [aV,aS,bt]] at e9;have hol:((cs.drop o).take (Nat.mul l ei.size)).length=l*ei.size:=by
   show ((cs.drop o).take (l*ei.size)).length=_
   simp;omega
  have hold: ∃os:List Value,VL ok w ((cs.drop o).take (Nat.mul l ei.size)) ρ os∧(Builtin.firstCells ei.size l (.slice (some ⟨r,o,none⟩) l c')).run P (drew w)= .ok os.toArray (drew w):=by
   obtain ⟨r',g1,g2,arr,et,fr,g3,g4,g5,_⟩:=I.live b _ hb;rw [r1] at g1;cases g1;have hva:=fS (Nat.mul l ei.size) (ib o g5);obtain ⟨os,k1,k2⟩:=uZ hva;have kl:=cm k1;rw [hol] at kl;refine ⟨os,k1,?_⟩;show (loadCells ⟨r,o,none⟩ (l*ei.size)).run P (drew w)=_;rw [←kl];refine run_loadCells_list (drew w) _ os (fun j v ev=>?_);rw [eI]
   have:=k2 j v ev
   rw [BE] at this;exact this
  cases ex with
  |true=>
   rw [aA] at e9
   simp at r2
   exact ub hu Te hz hby ht hu' hd hd' I (b:=b) h1 hdr e4 (by omega) e81 hold hol hty (.inr e9)
  |false=>
   rw [aE] at e9;have ho:o=0:=A8 (by simpa using e83);subst ho
   by_cases hin:l+n≤c'
   ·obtain ⟨r',arr,et,fr,g1,g2,g3,g4,g5,g6,_⟩:=tQ I hb
    rw [r1] at g1;cases g1
    have hsh:w.shape? r=some (et,arr.size):=by simp [World.shape?,g3]
    rw [hsh] at r3;cases r3
    have hty2:bq (Nat.beq yt (el+1)) (el+1) 0=0∨bq (Nat.beq yt (el+1)) (el+1) 0=tt+1:=by
     obtain ⟨r2,q1,_,a2,e2,f2,q3,_,_,q6⟩:=I.live b _ hb;rw [r1] at q1;cases q1;rw [g3] at q3;cases q3
     cases hb2:Nat.beq yt (el+1) with
     |false=>exact .inl rfl
     |true=>
      rw [aA];have hh:=A8 hb2;rcases q6.1 with c|c
      ·rw [c] at hh;cases hh
      ·exact .inr (hh.symm.trans c)
    have hfz:fr.1=fr.2∨arr.size≤fr.1:=by
     obtain ⟨r2,q1,_,a2,e2,f2,q3,_,_,q6⟩:=I.live b _ hb;rw [r1] at q1;cases q1;rw [g3] at q3;cases q3;exact q6.2
    have hfit:(l+n)*ei.size≤c'*ei.size:=BQ _ hin;rw [CG] at hfit
    let arr':Array Value:=(arr.toList.take (0+l*ei.size)++us++arr.toList.drop (0+l*ei.size+us.length)).toArray
    have hus:us.length=n*ei.size:=by omega
    have hsz':arr'.size=arr.size:=by simp [arr'];omega
    have hrun:=ew (P:=P) r (0+l*ei.size) tt fr us 0 arr w g3 g4 (by omega) (vq h2 e3);obtain ⟨E,I'⟩:=Ext.rename (w':=w.setRow r arr') (b':=.cells ((cs.drop 0).take (Nat.mul l ei.size)++new) (bq (Nat.beq yt (el+1)) (el+1) 0)) I hb r1 (by simp) (fun k hk=>setRow_other w r k _ hk)
     (by intro s hs';rw [hsh] at hs';cases hs';simp [World.shape?,setRow_heap w r arr arr' tt fr g3,hsz']) rfl rfl rfl (fun U=>by
      have hr':=setRow_heap w r arr arr' tt fr g3;refine ⟨arr',tt,fr,hr',by rw [hsz'];exact g4,?_,hty2,by rw [hsz'];exact hfz⟩;have hvl:VL ok w ((cs.drop 0).take (Nat.mul l ei.size)++new) ρ (arr.toList.take (l*ei.size)++us):=by
       have q:=pN (Nat.mul l ei.size) g5;rw [List.take_take,show min (Nat.mul l ei.size) cs.length=l*ei.size by show min (l*ei.size) _=_;omega] at q;rw [BF];exact gH q h2
      refine kY hr' _ (VL.up _ U hvl) ?_;simp only [BF,arr',BE];exact List.take_left' rfl)
    refine ⟨_,_,.slice (some ⟨r,0,none⟩) (l+n) c',_,_,_,e9,E,I',?_,?_⟩
    ·rw [ah]
     simp only [V];refine ⟨r,c',by simp [cG],rfl,by simpa using hin,hin,tt,arr.size,E.up.shp _ _ hsh,r4⟩
    ·refine pB hu Te ht hu' hd hd' h1 hin h3 (fun a ha=>?_) (fun c=>by cases c)
     cases ha
     rw [eI,hrun];simp only [Do,arr']
   ·exact ub hu Te hz hby ht hu' hd hd' I (b:=b) h1 hdr e4 (by omega) e81 hold hol hty (.inl e9)
theorem age {el u':Nat} {ei:TI} {d':TypeDesc} (hu:P.underlying t=some (.slice el)) (Te:dm P el ei) (hz:ei.size≠0) (hby:ei.bytes≠0) {ts:Array TypeId} {ty:TypeId} (ht:ts[0]? =some t) (hu':ts[1]? =some u') (hd:P.underlying u'=some d') (hd': ∀k,d'≠ .int k)
 (I:Inv C ok w ρ h) {s x:AV} {su u:Value} (hsv:V ok w s ρ su) (hx:V ok w x ρ u) (e:gg (el+1) ei.size ei.bytes s x h κ=some rs):Ef P C ok w ρ h κ rs (Builtin.append_ ts ty #[su,u]):=by
 obtain ⟨n,e1,e⟩:=ai e;obtain ⟨new,e2,e⟩:=ai e;obtain ⟨e3,e⟩:=aB e;rw [Ba] at e3;obtain ⟨e3,e4⟩:=e3;have e4:=A8 e4;rw [ah] at e4;have e4:new.length=n*ei.size:=e4;obtain ⟨h1,us,h2,h3,_⟩:=qH (P:=P) I hx e1 n e2;have ul:=cm h2;have hdr: ∃us:List Value,VL ok (drew w) new ρ us∧(Builtin.firstCells ei.size n u).run P (drew w)= .ok us.toArray (drew w):=by
  obtain ⟨E0,I0⟩:=agm I;obtain ⟨_,us,q3,q4,_⟩:=qH (P:=P) I0 (E0.V hx) e1 n e2;exact ⟨us,q3,q4⟩
 have nothing:n=0→us=[]:=by
  rintro rfl;rw [Nat.zero_mul] at e4;rw [e4] at ul;exact B7.1 ul
 have first0: ∀(base:Option Addr) (cap:Nat),(Builtin.firstCells ei.size 0 (.slice base 0 cap)).run P (drew w)= .ok ([]:List Value).toArray (drew w):=by
  intro base cap
  cases base<;>simp [Builtin.firstCells,loadCells,loadCellsFrom]
 have zero: ∀(base:Option Addr) (len cap:Nat),n=0→len≤cap→su= .slice base len cap→κ s h=some rs→Ef P C ok w ρ h κ rs (Builtin.append_ ts ty #[su,u]):=by
  intro base len cap hn0 hle hsu hk;subst hn0
  have:=nothing rfl
  subst this;refine Pu.ef I ⟨s,su,hk,hsv,?_⟩;subst hsu;exact pB hu Te ht hu' hd hd' h1 (by simpa using hle) h3 (fun a _=>by rfl) (fun _=>rfl)
 rcases fq e with ⟨rfl,e5⟩|⟨rfl,e5⟩|⟨b,o,l,c,z,ex,rfl,e5⟩|⟨cs,l,rfl,e5⟩
 ·simp only [V] at hsv
  unfold vc at e5
  cases hn0:Nat.beq n 0 with
  |true=>
   rw [hn0,aA] at e5;exact zero none 0 0 (A8 hn0) (A9 _) hsv e5
  |false=>
   rw [hn0,aE] at e5;obtain ⟨e6,e7⟩:=aB e5;have e6:kL _ n=true:=e6;have hpos:0<n:=Nat.pos_of_ne_zero (fun c=>by rw [c] at hn0;cases hn0);subst hsv;refine Ef.put (dW.refl h) ((dW.refl h).app (aaC (z:=ei.size) (n:=n) (cs:=new) (y:=el+1) e4)) (ub hu Te hz hby ht hu' hd hd' I (sLen:=0) (old:=[]) (b:=0) h1 hdr e4 (by omega) (by simpa using e6) ⟨[],by simp [VL],first0 _ _⟩ (by simp) (.inr rfl) (.inr ?_));simp only [BE,BO];rw [ny];exact e7
 ·simp only [V] at hsv
  obtain ⟨a,c,hsv⟩:=hsv;unfold vc at e5
  cases hn0:Nat.beq n 0 with
  |true=>
   rw [hn0,aA] at e5;exact zero (some a) 0 c (A8 hn0) (Cm _) hsv e5
  |false=>
   rw [hn0,aE] at e5;obtain ⟨e6,e7⟩:=aB e5
   cases e6
 ·obtain ⟨ez,e6⟩:=aB e5
  have ez:=A8 ez;subst ez;rcases lg e6 with ⟨cs,yt,hb,e7⟩|⟨z,ll,yt,hb,e7⟩
  ·exact ad6 hu Te hz hby ht hu' hd hd' I hsv h1 h2 h3 hdr e3 e4 hb e7
  ·have g0:=tZ I hb
   obtain ⟨e8,e9⟩:=aB e7;simp only [Ba] at e8;obtain ⟨⟨a1,a2⟩,a3,a4⟩:=e8;have a1:=A8 a1;subst a1;have a3:o%ei.size=0:=A8 a3;have a4:o/ei.size+l≤ag ll:=Be a4;rw [ah] at a4;have ho:o/ei.size*ei.size=o:=by rw [Db];have:=CM o ei.size;omega
   have fl:=qh g0;have ck:=vm ei.size n new e4;have cf:=rL ei.size n new e4;have k:=dW.one hb (BEq.rows g0);have hle:o+l*ei.size≤ll.flatten.length:=by
    rw [fl]
    have:=BQ ei.size a4
    rw [CG,ho] at this;exact this
   cases hc1:Nat.ble (Nat.add l n) c with
   |true=>
    rw [hc1,aA] at e9;obtain ⟨e10,e11⟩:=aB e9;have e10:o/ei.size+(l+n)≤ag ll:=Be e10;rw [ah] at e10;have hle2:o+(l+n)*ei.size≤ll.flatten.length:=by
     rw [fl]
     have:=BQ ei.size e10
     rw [CG,ho] at this;exact this
    have cl:(qx ei.size n new).length=n:=abN _ _ _;have hall: ∀x∈fK ll (Nat.add (Nat.div o ei.size) l) (qx ei.size n new),x.length=ei.size:=by
     intro x hx';rw [lI] at hx';rcases Cd.1 hx' with hx'|hx'
     ·rcases Cd.1 hx' with hx'|hx'
      ·exact g0 x (BX hx')
      ·exact ck x hx'
     ·exact g0 x (BY hx')
    have hfl:(fK ll (Nat.add (Nat.div o ei.size) l) (qx ei.size n new)).flatten=fK ll.flatten (Nat.add o (Nat.mul l ei.size)) new:=by
     rw [lI,lI,Ci,Ci,cf,nW _ g0,oy _ g0,cl,e4];show List.take ((o/ei.size+l)*ei.size) _++new++List.drop ((o/ei.size+l+n)*ei.size) _=List.take (o+l*ei.size) _++new++List.drop (o+l*ei.size+n*ei.size) _;rw [CG,CG,CG,ho]
    refine Ef.put k (uF hb g0 hall hfl) (ad6 hu Te hz hby ht hu' hd hd' (I.heq k) hsv h1 h2 h3 hdr e3 e4 (lQ hb) ?_);unfold apC;rw [hc1,aA,ah ll.flatten,show Nat.ble (Nat.add o (Nat.mul (Nat.add l n) ei.size)) ll.flatten.length=true from BH hle2,aA,ny];exact e11
   |false=>
    rw [hc1,aE] at e9;obtain ⟨e10,e11⟩:=aB e9;rw [Ba] at e10;have hall: ∀x∈av (cE l (cL (Nat.div o ei.size) ll)) (qx ei.size n new),x.length=ei.size:=by
     intro x hx';rw [aV,aS,bt] at hx';rcases Cd.1 hx' with hx'|hx'
     ·exact g0 x (BY (BX hx'))
     ·exact ck x hx'
    have hfl:(av (cE l (cL (Nat.div o ei.size) ll)) (qx ei.size n new)).flatten=av (cE (Nat.mul l ei.size) (cL o ll.flatten)) new:=by
     rw [aV,aV,aS,aS,bt,bt,Ci,cf,nW _ fun x hx'=>g0 x (BY hx'),oy _ g0];show List.take _ (List.drop (o/ei.size*ei.size) _)++_=_;rw [ho];rfl
    have hq:dW (bq ex (bH (some (.cells ll.flatten yt)) h b) (bH none (bH (some (.cells ll.flatten yt)) h b) b)) (bq ex h (bH none h b)):=by
     cases ex with
     |true=>exact k.symm
     |false=>exact dW.set k.symm b (.inl rfl)
    refine Ef.put k (dW.app hq (BEq.cells (y:=bq (Nat.beq yt (el+1)) (el+1) 0) hall hfl)) (ad6 hu Te hz hby ht hu' hd hd' (I.heq k) hsv h1 h2 h3 hdr e3 e4 (lQ hb) ?_);unfold apC;rw [hc1,aE,ah ll.flatten,show Nat.ble (Nat.add o (Nat.mul l ei.size)) ll.flatten.length=true from BH hle,Bool.and_true,e10.1,e10.2,show and true true=true from rfl,aA,ah (bH _ h b),cM,←ah];rw [ny];exact e11
 ·obtain ⟨e6,e7⟩:=aB e5
  have hsv':=hsv;simp only [V] at hsv';obtain ⟨r,q,c,_,hsu,hle,_⟩:=hsv';exact zero (some ⟨r,q,none⟩) l c (A8 e6) hle hsu e7
end
section
variable {P:Program} {C:Cx} {ok:Nat→Prop} {w:World} {ρ:Rho} {h:AH} {κ:Ka} {rs:Rs} {t:Nat} {ti:TI}
theorem ao2 {el:Nat} {ei:TI} (hu:P.underlying t=some (.slice el)) (Te:dm P el ei) {ts:Array TypeId} {ty:TypeId} (ht:ts[0]? =some t)
 (I:Inv C ok w ρ h) {d x:AV} {du u:Value} (hd:V ok w d ρ du) (hx:V ok w x ρ u) (e:aoU ei.size d x h κ=some rs):Ef P C ok w ρ h κ rs (Builtin.copy_ ts ty #[du,u]):=by
 obtain ⟨n,e1,e⟩:=ai e;obtain ⟨m,e2,e⟩:=ai e;obtain ⟨new,e3,e⟩:=ai e;obtain ⟨e4,e⟩:=aB e;rw [Ba] at e4;obtain ⟨e4,e5⟩:=e4;have e5:new.length=oF n m*ei.size:=by have:=A8 e5;rw [ah] at this;exact this
 rw [nO] at e3 e5;obtain ⟨h1,us,h2,h3,_⟩:=qH (P:=P) I hx e1 _ e3;have ul:=cm h2;have e0: ∀y:Value,(#[y,u]:Array Value)[0]? =some y:=fun y=>rfl
 have e0': ∀y:Value,(#[y,u]:Array Value)[1]? =some u:=fun y=>rfl
 have run: ∀(base:Option Addr) (c:Nat) (w':World),du= .slice base m c→(∀a,base=some a→(storeCells a us).run P w= .ok () w')→(base=none→w'=w)→(Builtin.copy_ ts ty #[du,u]).run P w= .ok (.int .i64 (min n m:Nat)) w':=by
  intro base c w' hdu hs hb;subst hdu;unfold Builtin.copy_;rw [ht,e0,e0'];have hm:Nat.min n m=min n m:=rfl;simp only [Sem.run_bind,underlying,run_program,Result.andThen_ok,hu,Sem.run_pure,Te.cz,h1,hm,h3]
  cases base with
  |none=>rw [hb rfl];rfl
  |some a=>
   have:=hs a rfl
   simp only [Sem.run_bind,Dl,this,Result.andThen_ok,Sem.run_pure,goInt]
 have nothing:min n m=0→us=[]:=by
  intro h0;rw [h0,Nat.zero_mul] at e5;rw [e5] at ul;exact B7.1 ul
 rcases fq e with ⟨rfl,e6⟩|⟨rfl,e6⟩|⟨b,o,l,c,z,ex,rfl,e6⟩|⟨cs,l,rfl,e6⟩
 ·simp only [V] at hd
  cases e2
  have h0:min n 0=0:=by omega
  refine Pu.ef I ⟨_,_,e6,eE .i64 _,?_⟩;rw [run none 0 w hd (by intro a c;cases c) (fun _=>rfl),h0];rfl
 ·obtain ⟨a,c,hd⟩:=aaZ hd
  cases e2
  have h0:min n 0=0:=by omega
  refine Pu.ef I ⟨_,_,e6,eE .i64 _,?_⟩;rw [run (some a) c w hd (by intro a c;rw [nothing h0];rfl) (fun c=>by cases c),h0];rfl
 ·obtain ⟨ez,e7⟩:=aB e6
  cases e2
  obtain ⟨cs,yt,hb,e8⟩:=lX e7;obtain ⟨e9,e10⟩:=aB e8;have e9:=Be e9;rw [ah,ah] at e9;have hd':=hd;simp only [V] at hd';obtain ⟨r,c',r1,hdu,_⟩:=hd';obtain ⟨r',w',g1,g2,E,I'⟩:=og (P:=P) I hb h2 e9 e4;rw [r1] at g1;cases g1;refine ⟨_,_,_,_,_,_,e10,E,I',eE .i64 _,?_⟩;rw [run (some ⟨r,o,none⟩) c' w' hdu (fun a ha=>by cases ha;exact g2) (fun c=>by cases c),nO];rfl
 ·obtain ⟨e7,e8⟩:=aB e6
  cases e2
  have h0:min n m=0:=by have:=A8 e7;rw [nO] at this;exact this
  obtain ⟨a,c,hdu⟩:=xT hd;refine Pu.ef I ⟨_,_,e8,eE .i64 _,?_⟩;rw [run (some a) c w hdu (by intro a c;rw [nothing h0];rfl) (fun c=>by cases c),h0];rfl
theorem oR {ki:TI} {k:AV} (e:jz ki k=true):(∃m n,k= .int m n∧ ∃kk,ki.kind= .int kk)∨(∃s,k= .str s∧ki.kind= .string)∨(∃b,k= .bool b∧ki.kind= .bool)∨
 (∃cs,k= .agg cs∧ki.flat=true∧fX ki.zero cs=true∧((∃fs,ki.kind= .struct fs)∨ ∃n e,ki.kind= .array n e)):=by
 unfold jz at e
 split at e
 ·next a b c d=>exact .inl ⟨_,_,rfl,_,by assumption⟩
 ·exact .inr (.inl ⟨_,rfl,by assumption⟩)
 ·exact .inr (.inr (.inl ⟨_,rfl,by assumption⟩))
 ·rw [Ba] at e
  exact .inr (.inr (.inr ⟨_,rfl,e.1,e.2,.inl ⟨_,by assumption⟩⟩))
 ·rw [Ba] at e
  exact .inr (.inr (.inr ⟨_,rfl,e.1,e.2,.inr ⟨_,_,by assumption⟩⟩))
 ·cases e
theorem agC: ∀{a b:List AV} {c:Bool},eqL a b=some c→a.length=b.length
 |[],[],_,_=>rfl
 |[],_::_,_,e=>by cases e
 |_::_,[],_,e=>by cases e
 |a::x,b::y,c,e=>by
  simp only [eqL] at e
  split at e
  ·rename_i h1 h2;simp [agC h2]
  ·cases e
theorem yc {a b:ByteArray} (h:(a==b)=true):(b==a)=true:=by
 rw [beq_toListBytes] at h ⊢
 simp at h ⊢
 exact h.symm
theorem aaj: ∀{a b:List AV} {us vs:List Value},eqL a b=some true→VL ok w a ρ us→VL ok w b ρ vs→(vs.zip us).all (fun p=>Instr.sameBits 9999 p.1 p.2)=true
 |[],[],_,_,_,h1,h2=>by simp only [VL] at h1 h2;subst h1;subst h2;rfl
 |[],_::_,_,_,e,_,_=>by cases e
 |_::_,[],_,_,e,_,_=>by cases e
 |a::x,b::y,_,_,e,h1,h2=>by
  simp only [VL] at h1 h2;obtain ⟨u,r,rfl,h3,h4⟩:=h1;obtain ⟨v,s,rfl,h5,h6⟩:=h2;simp only [eqL] at e
  split at e
  ·rename_i c d k1 k2
   have hc:c=true∧d=true:=by cases c<;>cases d<;>simp_all
   obtain ⟨rfl,rfl⟩:=hc;simp only [List.zip_cons_cons,List.all_cons,aaj k2 h4 h6,Bool.and_true];rcases fB k1 h3 h5 with ⟨k,p,q,rfl,rfl,hpq⟩|⟨p,q,rfl,rfl,hpq⟩|⟨p,q,rfl,rfl,hpq⟩
   ·have:p=q:=by simpa using hpq.symm
    subst this
    simp [Instr.sameBits]
   ·simp [Instr.sameBits,yc hpq.symm]
   ·have:p=q:=by simpa using hpq.symm
    subst this
    simp [Instr.sameBits]
  ·cases e
structure KF (P:Program) (t:Nat) (ki:TI):Prop where
 ty:dm P t ki
 fl:ki.flat=true→ki.agg=true→nC P t ki.zero
theorem jT (T:KF P t ti) {k:AV} {u:Value} (hk:jz ti k=true) (hv:V ok w k ρ u) (b:Bool):(Instr.checkKey b 10000 t u).run P w= .ok () w:=by
 have hu:=T.ty.und;rcases oR hk with ⟨m,n,rfl,kk,h1⟩|⟨s,rfl,h1⟩|⟨c,rfl,h1⟩|⟨cs,rfl,h1,h2,h3⟩
 ·rw [h1] at hu
  simp only [V] at hv;obtain ⟨k',_,rfl⟩:=hv;have key: ∀d u,(∀a,u≠ .agg a)→(Instr.checkKey b (d+1) t u).run P w= .ok () w:=fun d u hn=>by
   simp only [Instr.checkKey,Sem.run_bind,underlying,run_program,Result.andThen_ok,show P.underlying t=_ from hu,Sem.run_pure]
  exact key 9999 _ (by simp)
 ·rw [h1] at hu
  simp only [V] at hv;obtain ⟨k',rfl,_⟩:=hv;have key: ∀d u,(∀a,u≠ .agg a)→(Instr.checkKey b (d+1) t u).run P w= .ok () w:=fun d u hn=>by
   simp only [Instr.checkKey,Sem.run_bind,underlying,run_program,Result.andThen_ok,show P.underlying t=_ from hu,Sem.run_pure]
  exact key 9999 _ (by simp)
 ·rw [h1] at hu
  simp only [V] at hv;subst hv;have key: ∀d u,(∀a,u≠ .agg a)→(Instr.checkKey b (d+1) t u).run P w= .ok () w:=fun d u hn=>by
   simp only [Instr.checkKey,Sem.run_bind,underlying,run_program,Result.andThen_ok,show P.underlying t=_ from hu,Sem.run_pure]
  exact key 9999 _ (by simp)
 ·have ha:ti.agg=true:=by rw [T.ty.agg];rcases h3 with ⟨fs,h3⟩|⟨n,e,h3⟩<;>rw [h3]
  simp only [V] at hv;obtain ⟨xs,rfl,hv⟩:=hv;exact (T.fl h1 ha).chk b hv h2
theorem oZ {k x:AV} {r:List AV} {i:Option Nat} (e:jP k (x::r)=some i):(eqK k x=some true∧i=some 0)∨(eqK k x=some false∧ ∃j,jP k r=some j∧i=j.map (· +1)):=by
 simp only [jP] at e
 split at e
 ·next h=>cases e;exact .inl ⟨h,rfl⟩
 ·next h=>
  right
  refine ⟨h,?_⟩
  split at e
  ·next i h2=>cases e;exact ⟨_,h2,rfl⟩
  ·next x h2 h3=>
   cases i with
   |none=>exact ⟨none,e,rfl⟩
   |some i=>exact absurd e (h3 i)
 ·cases e
def foundAt (es:List MapEntry) (i0:Nat):Option Nat→Option (Nat×Value)
 |none=>none
 |some i=>(es[i]?).map fun e=>(i0+i,e.val)
theorem pH (T:KF P t ti) {k:AV} {u:Value} (hk:jz ti k=true) (hv:V ok w k ρ u) {es:List MapEntry} {ks:List AV} {i:Option Nat} (he:VL ok w ks ρ (es.map (·.key))) (e:jP k ks=some i):
 (Instr.findKey t u es).run P w= .ok (foundAt es 0 i) w:=by
 have hu:=T.ty.und;have basic: ∀d:TypeDesc,P.underlying t=some d→(∀(x:AV) (v:Value) (c:Bool),V ok w x ρ v→eqK k x=some c→Instr.sameNow d u v=some c)→(Instr.findKey t u es).run P w= .ok (foundAt es 0 i) w:=by
  intro d hd hs;have key: ∀(es:List MapEntry) (ks:List AV) (i:Option Nat) (i0:Nat),VL ok w ks ρ (es.map (·.key))→jP k ks=some i→Instr.findNow d u es i0=some (foundAt es i0 i):=by
   intro es
   induction es with
   |nil=>
    intro ks i i0 he e
    cases ks with
    |nil=>cases e;rfl
    |cons a b=>simp [VL] at he
   |cons x es ih=>
    intro ks i i0 he e
    cases ks with
    |nil=>simp [VL] at he
    |cons a b=>
     simp only [BS,VL] at he;obtain ⟨v,r,hvr,h1,h2⟩:=he
     cases hvr
     rcases oZ e with ⟨h3,rfl⟩|⟨h3,j,h4,rfl⟩
     ·simp [Instr.findNow,hs a x.key true h1 h3,foundAt]
     ·simp only [Instr.findNow,hs a x.key false h1 h3,ih b j (i0+1) h2 h4]
      cases j<;>simp [foundAt,Cq,Dt 1]
  simp only [Instr.findKey,Sem.run_bind,underlying,run_program,Result.andThen_ok,hd,Sem.run_pure,key es ks i 0 he e]
 rcases oR hk with ⟨m,n,rfl,kk,h1⟩|⟨s,rfl,h1⟩|⟨c,rfl,h1⟩|⟨cs,rfl,h1,h2,h3⟩
 ·rw [h1] at hu
  refine basic _ hu (fun x v c hx hc=>?_);have hc:eqC (.int m n) x=some c:=hc;rcases fB hc hv hx with ⟨k',p,q,rfl,rfl,rfl⟩|⟨p,q,rfl,rfl,rfl⟩|⟨p,q,rfl,rfl,rfl⟩
  ·simp [Instr.sameNow]
  ·simp [V] at hv
  ·simp [V] at hv
 ·rw [h1] at hu
  refine basic _ hu (fun x v c hx hc=>?_);have hc:eqC (.str s) x=some c:=hc;rcases fB hc hv hx with ⟨k',p,q,rfl,rfl,rfl⟩|⟨p,q,rfl,rfl,rfl⟩|⟨p,q,rfl,rfl,rfl⟩
  ·simp [V] at hv
  ·simp [Instr.sameNow]
  ·simp [V] at hv
 ·rw [h1] at hu
  refine basic _ hu (fun x v c' hx hc=>?_);have hc:eqC (.bool c) x=some c':=hc;rcases fB hc hv hx with ⟨k',p,q,rfl,rfl,rfl⟩|⟨p,q,rfl,rfl,rfl⟩|⟨p,q,rfl,rfl,rfl⟩
  ·simp [V] at hv
  ·simp [V] at hv
  ·simp [Instr.sameNow]
 ·have ha:ti.agg=true:=by rw [T.ty.agg];rcases h3 with ⟨fs,h3⟩|⟨n,e,h3⟩<;>rw [h3]
  have F:=T.fl h1 ha;simp only [V] at hv;obtain ⟨xs,rfl,hv⟩:=hv;have ask: ∀(es:List MapEntry) (ks:List AV) (i:Option Nat) (i0:Nat),VL ok w ks ρ (es.map (·.key))→jP (.agg cs) ks=some i→(Instr.findAsking t (.agg xs) es i0).run P w= .ok (foundAt es i0 i) w:=by
   intro es
   induction es with
   |nil=>
    intro ks i i0 he e
    cases ks with
    |nil=>cases e;rfl
    |cons a b=>simp [VL] at he
   |cons x es ih=>
    intro ks i i0 he e
    cases ks with
    |nil=>simp [VL] at he
    |cons a b=>
     simp only [BS,VL] at he;obtain ⟨v,r,hvr,h5,h6⟩:=he;have hv1:v=x.key:=by have:=congrArg List.head? hvr;simpa using this.symm
     have hv2:r=es.map (·.key):=by have:=congrArg List.tail hvr;simpa using this.symm
     subst hv1;subst hv2
     have eq: ∀c,eqK (.agg cs) a=some c→(Op.equal t (.agg xs) x.key).run P w= .ok c w:=by
      intro c hc
      have: ∃ds,a= .agg ds∧eqL cs ds=some c:=by cases a<;>first|exact ⟨_,rfl,hc⟩|cases hc
      obtain ⟨ds,rfl,hc⟩:=this;simp only [V] at h5;obtain ⟨ys,hy,h5⟩:=h5;rw [hy];exact F.eq hv h5 h2 hc
     rcases oZ e with ⟨h3,rfl⟩|⟨h3,j,h4,rfl⟩
     ·simp [Instr.findAsking,eq true h3,foundAt]
     ·simp only [Instr.findAsking,Sem.run_bind,eq false h3,Result.andThen_ok,BR,if_false,ih b j (i0+1) h6 h4]
      cases j<;>simp [foundAt,Cq,Dt 1]
  have hd: ∃d,P.underlying t=some d∧ ∀v,Instr.sameNow d (.agg xs) v=none:=by
   rcases h3 with ⟨fs,h3⟩|⟨n,el,h3⟩
   ·rw [h3] at hu
    obtain ⟨F',hu,_⟩:=hu;exact ⟨_,hu,fun v=>by cases v<;>rfl⟩
   ·rw [h3] at hu
    exact ⟨_,hu,fun v=>by cases v<;>rfl⟩
  obtain ⟨d,hd,hnow⟩:=hd
  cases es with
  |nil=>
   have:=ask [] ks i 0 he e
   cases ks with
   |nil=>cases e;simp [Instr.findKey,underlying,hd,Instr.findNow,foundAt]
   |cons a b=>simp [VL] at he
  |cons x es=>
   simp only [Instr.findKey,Sem.run_bind,underlying,run_program,Result.andThen_ok,hd,Sem.run_pure,Instr.findNow,hnow];exact ask _ ks i 0 he e
theorem ali (T:dm P t ti) {v:AV} (e:zeroV ti=some v): ∃z,(zeroValue t).run P w= .ok z w∧V ok w v ρ z:=by
 obtain ⟨z,h1,h2,h3,h4,h5⟩:=T.abj (w:=w);refine ⟨z,h1,?_⟩;unfold zeroV at e
 cases ha:ti.agg with
 |true=>
  rw [ha,aA] at e
  cases e
  obtain ⟨us,rfl⟩:=h4 ha;simp only [V];exact ⟨us,rfl,h2 ok w ρ⟩
 |false=>
  rw [ha,aE,bI] at e
  have:=h2 ok w ρ
  rw [h5 ha] at this;obtain ⟨u,k1,k2⟩:=pb this e;have hl:=cm this
  cases hz:ti.zero with
  |nil=>rw [hz] at e;cases e
  |cons a l=>
   rw [hz] at e
   simp at k1
   subst k1;exact k2
theorem ab0 {kt et:Nat} {ki ei:TI} (hu:P.underlying t=some (.map kt et)) (K:KF P kt ki) (Te:dm P et ei) {cok:Bool} (I:Inv C ok w ρ h) {m k:AV} {u v:Value} (hm:V ok w m ρ u) (hk:V ok w k ρ v)
 (e:nG ki ei cok m k h κ=some rs):Pu P ok w ρ h κ rs (Instr.lookup t u v cok):=by
 obtain ⟨⟨ks,vs⟩,e1,e⟩:=ai e;obtain ⟨e2,e⟩:=aB e;obtain ⟨i,e3,e⟩:=ai e;obtain ⟨x,e4,e5⟩:=ai e;have main: ∀(es:Array MapEntry),VL ok w ks ρ (es.toList.map (·.key))→VL ok w vs ρ (es.toList.map (·.val))→ ∃y,V ok w x ρ y∧((do
  Instr.checkKey es.isEmpty 10000 kt v
  let (q,okk) ←match ←Instr.findKey kt v es.toList with
   |some (_,q)=>pure (q,true)
   |none=>pure (←zeroValue et,false)
  pure (if cok then .tuple #[q,.bool okk] else q):Sem Value).run P w= .ok y w):=by
  intro es hks hvs;have hf:=pH K e2 hk hks e3;have hck:=jT K e2 hk es.isEmpty
  cases i with
  |none=>
   obtain ⟨q,e6,e7⟩:=ai e4
   cases e7
   obtain ⟨z,z1,z2⟩:=ali (ok:=ok) (w:=w) (ρ:=ρ) Te e6;simp only [Sem.run_bind,hck,Result.andThen_ok,hf,foundAt,z1,Sem.run_pure]
   cases cok with
   |true=>exact ⟨_,by simp only [aA,V,VL];exact ⟨#[z,.bool false],rfl,z,_,rfl,z2,_,_,rfl,rfl,rfl⟩,rfl⟩
   |false=>exact ⟨z,z2,rfl⟩
  |some i=>
   obtain ⟨q,e6,e7⟩:=ai e4
   cases e7
   first|rw [dg] at e6|rw [bI] at e6
   obtain ⟨z,z1,z2⟩:=pb hvs e6;rw [Bn] at z1
   cases hes:es.toList[i]? with
   |none=>rw [hes] at z1;cases z1
   |some en=>
    rw [hes] at z1
    cases z1
    simp only [Sem.run_bind,hck,Result.andThen_ok,hf,foundAt,hes,CJ,Sem.run_pure]
    cases cok with
    |true=>exact ⟨_,by simp only [aA,V,VL];exact ⟨#[en.val,.bool true],rfl,en.val,_,rfl,z2,_,_,rfl,rfl,rfl⟩,rfl⟩
    |false=>exact ⟨en.val,z2,rfl⟩
 rcases ab7 I hm e1 with ⟨rfl,rfl,rfl⟩|⟨r,es,ck,rfl,h2,h3,h4⟩
 ·obtain ⟨y,y1,y2⟩:=main #[] (by simp [VL]) (by simp [VL])
  refine ⟨x,y,e5,y1,?_⟩;rw [←y2];simp only [Instr.lookup,Sem.run_bind,underlying,run_program,Result.andThen_ok,hu,Sem.run_pure];rfl
 ·obtain ⟨y,y1,y2⟩:=main es h3 h4
  refine ⟨x,y,e5,y1,?_⟩;rw [←y2];have hg:(getObj r).run P w= .ok (.map es ck) w:=by simp [getObj,Sem.run,h2]
  simp only [Instr.lookup,Sem.run_bind,underlying,run_program,Result.andThen_ok,hu,Sem.run_pure,hg];rfl
theorem apE (T:KF P t ti) {k x:AV} {u v:Value} (hk:jz ti k=true) (hv:V ok w k ρ u) (hx:V ok w x ρ v) (e:eqK k x=some true):(Instr.keyThatStays v u).run P w= .ok u w:=by
 have:Instr.sameBits 10000 v u=true:=by
  rcases oR hk with ⟨m,n,rfl,kk,h1⟩|⟨s,rfl,h1⟩|⟨c,rfl,h1⟩|⟨cs,rfl,h1,h2,h3⟩
  ·have hc:eqC (.int m n) x=some true:=e
   rcases fB hc hv hx with ⟨k',p,q,rfl,rfl,hpq⟩|⟨p,q,rfl,rfl,hpq⟩|⟨p,q,rfl,rfl,hpq⟩
   ·have:p=q:=by simpa using hpq.symm
    simp [Instr.sameBits,this]
   ·simp [V] at hv
   ·simp [V] at hv
  ·have hc:eqC (.str s) x=some true:=e
   rcases fB hc hv hx with ⟨k',p,q,rfl,rfl,hpq⟩|⟨p,q,rfl,rfl,hpq⟩|⟨p,q,rfl,rfl,hpq⟩
   ·simp [V] at hv
   ·simp [Instr.sameBits,hpq.symm,yc hpq.symm]
   ·simp [V] at hv
  ·have hc:eqC (.bool c) x=some true:=e
   rcases fB hc hv hx with ⟨k',p,q,rfl,rfl,hpq⟩|⟨p,q,rfl,rfl,hpq⟩|⟨p,q,rfl,rfl,hpq⟩
   ·simp [V] at hv
   ·simp [V] at hv
   ·have:p=q:=by simpa using hpq.symm
    simp [Instr.sameBits,this]
  ·have: ∃ds,x= .agg ds∧eqL cs ds=some true:=by cases x<;>first|exact ⟨_,rfl,e⟩|cases e
   obtain ⟨ds,rfl,hc⟩:=this;simp only [V] at hv hx;obtain ⟨xs,rfl,hv⟩:=hv;obtain ⟨ys,rfl,hx⟩:=hx;have l1:=cm hv;have l2:=cm hx;have l3:=agC hc;have hb:=aaj hc hv hx;show (ys.size==xs.size&&(ys.toList.zip xs.toList).all (fun (x,y)=>Instr.sameBits 9999 x y))=true;have hs:ys.size=xs.size:=by simp at l1 l2;omega
   rw [Ba];exact ⟨by simp [hs],hb⟩
 simp [Instr.keyThatStays,this]
theorem vi {kt et:Nat} {ki:TI} (hu:P.underlying t=some (.map kt et)) (K:KF P kt ki) (I:Inv C ok w ρ h) {m k x:AV} {mu ku xu:Value} (hm:V ok w m ρ mu) (hk:V ok w k ρ ku) (hx:V ok w x ρ xu)
 (e:yD ki m k x h κ=some rs):Eu P C ok w ρ h κ rs (Instr.mapUpdate t mu ku xu):=by
 cases m<;>try (cases e;done)
 rename_i b
 obtain ⟨blk,e1,e⟩:=ai (show au (ab h b) _=some rs from e)
 cases blk with
 |cells cs=>cases e
 |rows z ll y=>cases e
 |map ks vs=>
  obtain ⟨e2,e⟩:=aB (show bq (jz ki k) _ none=some rs from e);obtain ⟨i,e3,e4⟩:=ai e;simp only [V] at hm;obtain ⟨r,h1,rfl⟩:=hm;obtain ⟨r',g1,g2,es,ck,g3,g4,g5,gst⟩:=I.live b _ e1;rw [h1] at g1;cases g1;have hlt:r<w.heap.size:=(I.dom _ _ h1).2;have hf:=pH K e2 hk g4 e3;have hck:=jT K e2 hk false;have hg:(getObj r).run P w= .ok (.map es ck) w:=by simp [getObj,Sem.run,g3]
  have hset: ∀o,(setObj r o).run P w= .ok () {w with heap:=w.heap.setIfInBounds r o}:=fun o=>by simp [setObj,Sem.run,g3]
  have wr: ∀(es':Array MapEntry) (ck':Nat) (ks' vs':List AV),VL ok w ks' ρ (es'.toList.map (·.key))→VL ok w vs' ρ (es'.toList.map (·.val))→wA es' ck'→
   Ext ok w ρ h ok {w with heap:=w.heap.setIfInBounds r (.map es' ck')} ρ (bH (some (.map ks' vs')) h b)∧Inv C ok {w with heap:=w.heap.setIfInBounds r (.map es' ck')} ρ (bH (some (.map ks' vs')) h b):=by
   intro es' ck' ks' vs' hk' hv' hst';refine Ext.write I e1 h1 (by simp) (fun q hq=>by simp [Cp,Ne.symm hq]) ?_ rfl rfl rfl (fun U=>?_)
   ·intro s hs;simp [World.shape?,g3] at hs
   ·exact ⟨es',ck',by simp [hlt],VL.up _ U hk',VL.up _ U hv',hst'⟩
  cases i with
  |none=>
   obtain ⟨E,I'⟩:=wr (es.push {key:=ku,val:=xu,born:=ck}) (ck+1) (ks++[k]) (vs++[x]) (by
    simp only [Array.toList_push,Co,BS,List.map_nil];exact gH g4 (by simp only [VL];exact ⟨_,_,rfl,hk,rfl⟩)) (by
    simp only [Array.toList_push,Co,BS,List.map_nil];exact gH g5 (by simp only [VL];exact ⟨_,_,rfl,hx,rfl⟩)) (by
    refine ⟨fun y hy=>?_,?_⟩
    ·rw [Array.toList_push] at hy
     rcases Cd.1 hy with hy|hy
     ·exact Nat.lt_succ_of_lt (gst.1 y hy)
     ·rw [List.mem_singleton.1 hy];exact Nat.lt_succ_self _
    ·rw [Array.toList_push,Co,List.nodup_append]
     refine ⟨gst.2,by simp,fun a ha b hb=>?_⟩;obtain ⟨y,hy,rfl⟩:=Cg.1 ha
     have:=gst.1 y hy
     simp at hb
     omega)
   have e4:κ (.tup []) (bH (some (.map (av ks [k]) (av vs [x]))) h b)=some rs:=e4;rw [aV,aV] at e4;refine ⟨_,_,_,_,e4,E,I',?_⟩;simp only [Instr.mapUpdate,Sem.run_bind,underlying,run_program,Result.andThen_ok,hu,Sem.run_pure,hg,hck,hf,foundAt,hset]
  |some i=>
   have hi: ∃en kx,es.toList[i]? =some en∧V ok w kx ρ en.key∧eqK k kx=some true:=by
    clear hf e4 e
    have: ∀(L:List MapEntry) (ks:List AV) (i:Nat),VL ok w ks ρ (L.map (·.key))→jP k ks=some (some i)→ ∃en kx,L[i]? =some en∧V ok w kx ρ en.key∧eqK k kx=some true:=by
     intro L
     induction L with
     |nil=>intro ks i he e;cases ks with
      |nil=>cases e
      |cons a b=>simp [VL] at he
     |cons y L ih=>
      intro ks i he e
      cases ks with
      |nil=>simp [VL] at he
      |cons a b=>
       simp only [BS,VL] at he;obtain ⟨v,q,hvr,h5,h6⟩:=he;have hv1:v=y.key:=by have:=congrArg List.head? hvr;simpa using this.symm
       have hv2:q=L.map (·.key):=by have:=congrArg List.tail hvr;simpa using this.symm
       subst hv1;subst hv2
       rcases oZ e with ⟨h3,h4⟩|⟨h3,j,h4,h7⟩
       ·cases h4;exact ⟨y,a,rfl,h5,h3⟩
       ·cases j with
        |none=>cases h7
        |some j=>cases h7;exact ih b j h6 h4
    exact this es.toList ks i g4 e3
   obtain ⟨en,kx,hes,hkx,hek⟩:=hi;have hesa:es[i]? =some en:=by simpa using hes
   have hst:=apE K e2 hk hkx hek;have hmod: ∀f:MapEntry→MapEntry,(es.modify i f).toList=es.toList.set i (f en):=by
    intro f;apply Cz;intro j;simp only [Bk,C6,Ck]
    by_cases hj:i=j
    ·subst hj
     have h1:=(Bw.1 hesa);obtain ⟨h1,h2⟩:=h1
     simp [h1,h2]
    ·simp [hj]
   obtain ⟨E,I'⟩:=wr (es.modify i fun e=>{e with key:=ku,val:=xu}) ck (ks.set i k) (vs.set i x) (by
    rw [hmod,List.map_set];exact vk i g4 hk) (by
    rw [hmod,List.map_set];exact vk i g5 hx) (by
    have hi:=(Bc.1 hes).1;refine ⟨fun y hy=>?_,?_⟩
    ·rw [hmod] at hy
     rcases CT hy with hy|rfl
     ·exact gst.1 y hy
     ·exact gst.1 en (Bg hes)
    ·rw [hmod,List.map_set]
     have:(es.toList.map (·.born)).set i en.born=es.toList.map (·.born):=by
      apply Cz;intro j;rw [Ck]
      split
      ·next h=>subst h;have hi2:i<es.size:=by simpa using hi
               have h3:es[i]=en:=(Bw.1 hesa).2
               simp [hi2,h3]
      ·rfl
     show ((es.toList.map (·.born)).set i en.born).Nodup;rw [this];exact gst.2)
   have e4:κ (.tup []) (bH (some (.map (bH k ks i) (bH x vs i))) h b)=some rs:=e4;rw [cK k,cK x] at e4;refine ⟨_,_,_,_,e4,E,I',?_⟩;simp only [Instr.mapUpdate,Sem.run_bind,underlying,run_program,Result.andThen_ok,hu,Sem.run_pure,hg,hck,hf,foundAt,hes,CJ,BE,hesa,Option.getD_some,hst,hset]
theorem rz {α β:Type} (f:α→β): ∀(l:List α) (i:Nat),(l.eraseIdx i).map f=(l.map f).eraseIdx i
 |[],i=>by simp
 |a::r,0=>rfl
 |a::r,i+1=>by rw [CH,BS,rz f r i,BS,CH]
theorem aaz {us:List Value}: ∀{l:List AV} {i:Nat},VL ok w l ρ us→VL ok w (l.eraseIdx i) ρ (us.eraseIdx i):=by
 induction us with
 |nil=>
  intro l i h
  have:=cm h
  have:l=[]:=B7.1 (by simp at this;omega)
  subst this
  simpa using h
 |cons u us ih=>
  intro l i h
  cases l with
  |nil=>simp [VL] at h
  |cons a l=>
   simp only [VL] at h;obtain ⟨x,r,e,h1,h2⟩:=h;simp only [List.cons.injEq] at e;obtain ⟨rfl,rfl⟩:=e
   cases i with
   |zero=>simpa using h2
   |succ i=>
    rw [CH,CH];simp only [VL];exact ⟨_,_,rfl,h1,ih h2⟩
theorem mG {ok:Nat→Prop} {w:World} {ρ:Rho}:V ok w (.tup []) ρ (.tuple #[]):=by simp only [V];exact ⟨#[],rfl,by simp [VL]⟩
theorem aqr {kt et:Nat} {ki:TI} (hu:P.underlying t=some (.map kt et)) (K:KF P kt ki) {ts:Array TypeId} {ty:TypeId} (ht:ts[0]? =some t) (I:Inv C ok w ρ h) {m k:AV} {mu ku:Value} (hm:V ok w m ρ mu) (hk:V ok w k ρ ku)
 (e:avu ki m k h κ=some rs):Ef P C ok w ρ h κ rs (Builtin.delete_ ts ty #[mu,ku]):=by
 have e0:(#[mu,ku]:Array Value)[0]? =some mu:=rfl;have e1':(#[mu,ku]:Array Value)[1]? =some ku:=rfl
 cases m<;>try (cases e;done)
 ·obtain ⟨e2,e3⟩:=aB (show bq (jz ki k) _ none=some rs from e)
  simp only [V] at hm;subst hm;refine Pu.ef I ⟨_,_,e3,mG,?_⟩;have hck:=jT K e2 hk true;unfold Builtin.delete_;rw [ht,e0,e1'];simp only [Sem.run_bind,underlying,run_program,Result.andThen_ok,hu,Sem.run_pure,hck]
 ·rename_i b
  obtain ⟨blk,e1,e⟩:=ai (show au (ab h b) _=some rs from e)
  cases blk with
  |cells cs=>cases e
  |rows z ll y=>cases e
  |map ks vs=>
   obtain ⟨e2,e⟩:=aB (show bq (jz ki k) _ none=some rs from e);obtain ⟨i,e3,e4⟩:=ai e;simp only [V] at hm;obtain ⟨r,h1,rfl⟩:=hm;obtain ⟨r',g1,g2,es,ck,g3,g4,g5,gst⟩:=I.live b _ e1;rw [h1] at g1;cases g1;have hlt:r<w.heap.size:=(I.dom _ _ h1).2;have hf:=pH K e2 hk g4 e3;have hck:=jT K e2 hk es.isEmpty;have hg:(getObj r).run P w= .ok (.map es ck) w:=by simp [getObj,Sem.run,g3]
   have hset: ∀o,(setObj r o).run P w= .ok () {w with heap:=w.heap.setIfInBounds r o}:=fun o=>by simp [setObj,Sem.run,g3]
   have wr: ∀(es':Array MapEntry) (ck':Nat) (ks' vs':List AV),VL ok w ks' ρ (es'.toList.map (·.key))→VL ok w vs' ρ (es'.toList.map (·.val))→wA es' ck'→
    Ext ok w ρ h ok {w with heap:=w.heap.setIfInBounds r (.map es' ck')} ρ (bH (some (.map ks' vs')) h b)∧Inv C ok {w with heap:=w.heap.setIfInBounds r (.map es' ck')} ρ (bH (some (.map ks' vs')) h b):=by
    intro es' ck' ks' vs' hk' hv' hst';refine Ext.write I e1 h1 (by simp) (fun q hq=>by simp [Cp,Ne.symm hq]) ?_ rfl rfl rfl (fun U=>?_)
    ·intro s hs;simp [World.shape?,g3] at hs
    ·exact ⟨es',ck',by simp [hlt],VL.up _ U hk',VL.up _ U hv',hst'⟩
   have keep:κ (.tup []) (bH (some (.map ks vs)) h b)=some rs→(foundAt es.toList 0 i=none)→Ef P C ok w ρ h κ rs (Builtin.delete_ ts ty #[.map (some r),ku]):=fun e5 hn=>by
    obtain ⟨E,I'⟩:=wr es ck ks vs g4 g5 gst;refine ⟨_,_,_,_,_,_,e5,E,I',mG,?_⟩;unfold Builtin.delete_;rw [ht,e0,e1'];simp only [Sem.run_bind,underlying,run_program,Result.andThen_ok,hu,Sem.run_pure,hg,hck,hf,hn,hset]
   cases i with
   |none=>exact keep e4 rfl
   |some i=>
    have e4:κ (.tup []) (bH (some (.map (ahl ks i) (ahl vs i))) h b)=some rs:=e4;rw [zi,zi] at e4
    cases hes:es.toList[i]? with
    |none=>
     have hl:es.toList.length≤i:=CU.1 hes;have l1:=cm g4;have l2:=cm g5;rw [BI] at l1 l2;rw [List.eraseIdx_of_length_le (by omega),List.eraseIdx_of_length_le (by omega)] at e4;exact keep e4 (by unfold foundAt;simp only [hes];rfl)
    |some en=>
     have her:(es.eraseIdxIfInBounds i).toList=es.toList.eraseIdx i:=by
      have hi:i<es.size:=by have:=(Bc.1 hes).1;simpa using this
      simp [Array.eraseIdxIfInBounds,hi]
     obtain ⟨E,I'⟩:=wr (es.eraseIdxIfInBounds i) ck (ks.eraseIdx i) (vs.eraseIdx i) (by
      rw [her,rz];exact aaz g4) (by
      rw [her,rz];exact aaz g5) ⟨fun y hy=>by
       rw [her] at hy;exact gst.1 y (List.mem_of_mem_eraseIdx hy),by
       rw [her];exact gst.2.sublist ((List.eraseIdx_sublist es.toList i).map _)⟩
     refine ⟨_,_,_,_,_,_,e4,E,I',mG,?_⟩;have hfa:foundAt es.toList 0 (some i)=some (i,en.val):=by unfold foundAt;simp only [hes];simp
     unfold Builtin.delete_;rw [ht,e0,e1'];simp only [Sem.run_bind,underlying,run_program,Result.andThen_ok,hu,Sem.run_pure,hg,hck,hf,hfa,hset]
theorem ars {el:Nat} {ei:TI} (hu:P.underlying t=some (.slice el)) (Te:dm P el ei) (hz:ei.size≠0) {ts:Array TypeId} {ty:TypeId} (ht:ts[0]? =some t) (I:Inv C ok w ρ h) {x:AV} {u:Value} (hx:V ok w x ρ u)
 (e:av6 ei.size ei.zero x h κ=some rs):Ef P C ok w ρ h κ rs (Builtin.clear_ ts ty #[u]):=by
 have e0: ∀y:Value,(#[y]:Array Value)[0]? =some y:=fun y=>rfl
 have nothing: ∀(a:Option Addr) (c:Nat),(Builtin.clear_ ts ty #[.slice a 0 c]).run P w= .ok (.tuple #[]) w:=fun a c=>by
  unfold Builtin.clear_;rw [ht,e0];simp only [Sem.run_bind,underlying,run_program,Result.andThen_ok,hu,Sem.run_pure]
  cases a<;>rfl
 rcases fq e with ⟨rfl,e6⟩|⟨rfl,e6⟩|⟨b,o,l,c,z,ex,rfl,e6⟩|⟨cs,l,rfl,e6⟩
 ·simp only [V] at hx
  subst hx;exact Pu.ef I ⟨_,_,e6,mG,nothing _ _⟩
 ·obtain ⟨a,c,rfl⟩:=aaZ hx
  exact Pu.ef I ⟨_,_,e6,mG,nothing _ _⟩
 ·have hx':=hx
  simp only [V] at hx';obtain ⟨r,c',r1,hdu,_⟩:=hx';have e6:bq (Nat.beq l 0) (κ (.tup []) h) (bq (Nat.beq z ei.size) (pK h b (clrC l (nv ei.zero l) h κ b o)) none)=some rs:=e6
  cases hl:Nat.beq l 0 with
  |true=>
   rw [hl,aA] at e6;obtain rfl:=A8 hl;rw [hdu];exact Pu.ef I ⟨_,_,e6,mG,nothing _ _⟩
  |false=>
   rw [hl,aE] at e6;obtain ⟨ez,e7⟩:=aB e6;obtain ⟨cs,yt,hb,e8⟩:=lX e7;obtain ⟨e9,e10⟩:=aB e8;rw [Ba] at e9;obtain ⟨e9,e11⟩:=e9;have e11:=Be e11;rw [ah,ah] at e11;obtain ⟨zs,z1,z2,z3⟩:=om (P:=P) Te;have hl0:l≠0:=fun c=>by subst c;cases hl
   have hv:=ack (ok:=ok) (w:=w) (z2 ok w ρ) (by omega) l;obtain ⟨r',w',g1,g2,E,I'⟩:=og (P:=P) I hb hv e11 e9;rw [r1] at g1;cases g1;refine ⟨_,_,_,_,_,_,e10,E,I',mG,?_⟩;rw [hdu];unfold Builtin.clear_;rw [ht,e0];have hzc:(Builtin.zeroCells zs.cells l).toList=(List.range (l*zs.cells.size)).map (fun i=>zs.cells[i%zs.cells.size]!):=by simp [Builtin.zeroCells]
   obtain ⟨l,rfl⟩: ∃q,l=q+1:=⟨l-1,by omega⟩;simp only [Sem.run_bind,underlying,run_program,Result.andThen_ok,hu,Sem.run_pure,z3,hzc,g2]
 ·obtain ⟨e7,e8⟩:=aB (show bq (Nat.beq l 0) (κ (.tup []) h) none=some rs from e6)
  obtain rfl:=A8 e7;obtain ⟨a,c,rfl⟩:=xT hx;exact Pu.ef I ⟨_,_,e8,mG,nothing _ _⟩
end
def ga (P : Program) (C : Cx) (f : Nat) (args : List AV) (h : AH) (r : AV) (h' : AH) : Prop := (∃ fn, P.funcs[f]? = some fn ∧ (fn.name == "runtime.NumGoroutine") = false ∧ fn.body.isNone = false) ∧
 ∀ok w ρ us,Inv C ok w ρ h→VL ok w args ρ us→Calls P f us.toArray w fun e w'=>∃u ok' ρ',e= .returned u∧Ext ok w ρ h ok' w' ρ' h'∧Inv C ok' w' ρ' h'∧V ok' w' r ρ' u
def dB (P:Program) (C:Cx) (run:Run):Prop:=∀f args h r h',run f args h=some (r,h')→ga P C f args h r h'
def aZ (P : Program) (C : Cx) (f : Nat) (args : List AV) (v : AV) : Prop := (∃ fn, P.funcs[f]? = some fn ∧ (fn.name == "runtime.NumGoroutine") = false ∧ fn.body.isNone = false) ∧ v.lt 0 = true ∧
 ∀ok w us,Inv C ok w ρ0 []→VL ok w args ρ0 us→Calls P f us.toArray w fun e w'=>∃u ok',e= .returned u∧Ext ok w ρ0 [] ok' w' ρ0 []∧Inv C ok' w' ρ0 []∧V ok' w' v ρ0 u
structure aaK (W W':World):Prop where
 size:W.heap.size≤W'.heap.size
 keep: ∀r,r<W.heap.size→W'.heap[r]? =W.heap[r]?
 os:W'.os=W.os
 tape:W'.tape=W.tape
 output:W'.output=W.output
theorem aaK.alloc (W:World) (o:Obj):aaK W (W.alloc o):=
 ⟨by show _≤(W.heap.push o).size;simp,fun r hr=>by show (W.heap.push o)[r]? =_;rw [CX,if_neg (by omega)],rfl,rfl,rfl⟩
def axW (P:Program) (g:Nat) (q:List AV→Option (List AV)):Prop:=
 (∀args w,(callFunc g args).run P w= .ok (.enter g args) w)∧
 ∀(first xs:List AV),q first=some xs→ ∀(ok:Nat→Prop) (w:World) (ρ:Rho) (us:List Value),VL ok w first ρ us→ ∀(l:Nat) (J:Nat→List Nat→World→Prop) (W:World),
  (∀k Fs W W' rs,J k Fs W→aaK W W'→(∀r∈rs,W.heap.size≤r∧r<W'.heap.size)→J k (rs++Fs) W')→
  (∀k Fs W1 x v,J k Fs W1→xs[k]? =some x→(∀ok w ρ,V ok w x ρ v)→YieldAt Fence.wide 0 P l #[v] W1 fun e W'=>e= .returned (.bool true)∧J (k+1) Fs W'∧ ∀r∈Fs,W'.heap[r]? =W1.heap[r]?)→
  J 0 [] W→CallsIn Fence.wide 0 P g (us.toArray++ #[.func (.yield l) #[] #[]]) W fun e W'=>(∃v,e= .returned v)∧ ∃Fs,J xs.length Fs W'
structure c7 (P:Program) (C:Cx):Prop where
 ty: ∀t ti,C.ty t=some ti→dm P t ti
 one: ∀t ti,C.ty t=some ti→ti.agg=false→ti.size=1
 fl: ∀t ti,C.ty t=some ti→ti.flat=true→ti.agg=true→nC P t ti.zero
 fn : ∀ f fn, C.fn f = some fn → P.funcs[f]? = some fn ∧ (fn.name == "runtime.NumGoroutine") = false
 ext: ∀f g,C.ext f=some g→ ∀args h v h',g args h=some (v,h')→ ∀ok w ρ us,Inv C ok w ρ h→VL ok w args ρ us→ ∃u w' ok' ρ',(callFunc f us.toArray).run P w= .ok (.value u) w'∧Ext ok w ρ h ok' w' ρ' h'∧Inv C ok' w' ρ' h'∧V ok' w' v ρ' u
 rD: ∀f args v,C.rD f args=some v→aZ P C f args v
 orc: ∀f g,C.orc f=some g→ ∀run,dB P C run→ ∀args h r h',g run args h=some (r,h')→ga P C f args h r h'
 mixed:P.follows .mixedOrders=true
 sq: ∀g q,C.sq g=some q→axW P g q
def Does (P:Program) (C:Cx) (o:Oper) (a:Act) (ok:Nat→Prop) (w:World) (ρ:Rho) (h:AH) (κ:Ka) (rs:Rs):Prop:=
 ∃v h',κ v h'=some rs∧ ∀next Q,(∀u w' ok' ρ',Ext ok w ρ h ok' w' ρ' h'→Inv C ok' w' ρ' h'→V ok' w' v ρ' u→next (a.put o.dst u) w')→o.wp P a w next Q
section
variable {P:Program} {C:Cx} {ok:Nat→Prop} {w:World} {ρ:Rho} {h:AH} {κ:Ka} {rs:Rs} {o:Oper} {a:Act}
theorem Does.ef {s:Sem Value} (he:execOp a.eval o=(do pure (.value (←s)))) (p:Ef P C ok w ρ h κ rs s):Does P C o a ok w ρ h κ rs:=by
 obtain ⟨v,h',x,ok',w',ρ',h1,h2,h3,h4,h5⟩:=p;refine ⟨v,h',h1,fun next Q hn=>?_⟩
 have:(execOp a.eval o).run P w= .ok (.value x) w':=by rw [he];simp [h5]
 unfold Oper.wp;rw [this];exact hn x w' ok' ρ' h2 h3 h4
theorem Does.pu {s:Sem Value} (I:Inv C ok w ρ h) (he:execOp a.eval o=(do pure (.value (←s)))) (p:Pu P ok w ρ h κ rs s):Does P C o a ok w ρ h κ rs:=Does.ef he (p.ef I)
theorem Does.eu {s:Sem Unit} (he:execOp a.eval o=(do s;pure .skip)) (p:Eu P C ok w ρ h κ rs s):Does P C o a ok w ρ h κ rs:=by
 obtain ⟨h',ok',w',ρ',h1,h2,h3,h4⟩:=p;refine ⟨.tup [],h',h1,fun next Q hn=>?_⟩
 have:(execOp a.eval o).run P w= .ok .skip w':=by rw [he];simp [h4]
 unfold Oper.wp;rw [this];exact hn undef w' ok' ρ' h2 h3 (by simp only [V];exact ⟨#[],rfl,by simp [VL]⟩)
theorem Does.now {x:Value} {v:AV} (I:Inv C ok w ρ h) (he:(execOp a.eval o).run P w= .ok (.value x) w) (e:κ v h=some rs) (hv:V ok w v ρ x):Does P C o a ok w ρ h κ rs:=by
 refine ⟨v,h,e,fun next Q hn=>?_⟩;unfold Oper.wp;rw [he];exact hn x w ok ρ (Ext.refl _ _ _ _) I hv
theorem Inv.own (I:Inv C ok w ρ h):Inv C ok w ρ0 []:=
 ⟨I.okb,fun _ _ e=>by (cases e),fun n b e=>by (simp [ab,dQ] at e),fun n m r e=>by (simp [ab,dQ] at e),I.gl⟩
theorem al4 {ok':Nat→Prop} (I:Inv C ok w ρ h) (h1: ∀r,ok r→ok' r) (h2: ∀n r,ab h n≠none→ρ n=some r→ok' r): ∀(k:Nat) {v v':AV} {u:Value},fzV h k v=some v'→V ok w v ρ u→V ok' w v' ρ0 u
 |0,_,_,_,e,_=>by cases e
 |k+1,v,v',u,e,hv=>by
  have U:Up ok w ρ0 ok' w ρ0:=⟨fun _ _=>rfl,h1,fun _ _ h=>h,fun _ _ h=>h⟩;have hl: ∀{cs cs':List AV} {us:List Value},jD (dc (fzV h k) cs)=some cs'→VL ok w cs ρ us→VL ok' w cs' ρ0 us:=by
   intro cs
   induction cs with
   |nil=>intro cs' us e hv;cases e;simpa only [VL] using hv
   |cons c cs ih=>
    intro cs' us e hv;obtain ⟨x,y,e1,e2,rfl⟩:=sf (a:=fzV h k c) (r:=dc (fzV h k) cs) e;simp only [VL] at hv ⊢;obtain ⟨q,r,rfl,k1,k2⟩:=hv;exact ⟨q,r,rfl,al4 I h1 h2 k e1 k1,ih e2 k2⟩
  have ha: ∀{cs cs':List AV} {r p:Nat},jD (dc (fzV h k) cs)=some cs'→VAt ok w cs ρ r p→VAt ok' w cs' ρ0 r p:=by
   intro cs
   induction cs with
   |nil=>intro cs' r p e hv;cases e;simp only [VAt]
   |cons c cs ih=>
    intro cs' r p e hv;obtain ⟨x,y,e1,e2,rfl⟩:=sf (a:=fzV h k c) (r:=dc (fzV h k) cs) e;simp only [VAt] at hv ⊢;obtain ⟨⟨q,k1,k2⟩,k3⟩:=hv;exact ⟨⟨q,k1,al4 I h1 h2 k e1 k2⟩,ih e2 k3⟩
  have mapO_inv: ∀{α β:Type} {f:α→β} {x:Option α} {y:β},acO f x=some y→ ∃z,x=some z∧y=f z:=by
   intro α β f x y e
   cases x with
   |none=>cases e
   |some z=>cases e;exact ⟨z,rfl,rfl⟩
  cases v
  case pto b o=>
   simp only [fzV] at e
   split at e
   ·rename_i cs _ hb
    obtain ⟨cs',e1,rfl⟩:=mapO_inv e;simp only [V] at hv ⊢;obtain ⟨r,k1,rfl⟩:=hv;obtain ⟨r',g1,g2,arr,et,fr,g3,g4,g5,_⟩:=I.live b _ hb;rw [k1] at g1;cases g1;exact ⟨r,0,h2 b r (by rw [hb];simp) k1,by simp,ha e1 g5⟩
   ·rename_i _ ll _ hb
    rw [pO] at e;obtain ⟨cs',e1,rfl⟩:=mapO_inv e;simp only [V] at hv ⊢;obtain ⟨r,k1,rfl⟩:=hv;obtain ⟨r',g1,g2,g0,arr,et,fr,g3,g4,g5,_⟩:=I.live b _ hb;rw [k1] at g1;cases g1;exact ⟨r,0,h2 b r (by rw [hb];simp) k1,by simp,ha e1 g5⟩
   ·cases e
  case slo b o l c z ex=>
   simp only [fzV] at e
   split at e
   ·rename_i cs _ hb
    cases hc:Nat.ble (o+l*z) (ag cs) with
    |false=>rw [hc] at e;cases e
    |true=>
     rw [hc] at e;obtain ⟨cs',e1,rfl⟩:=mapO_inv e;simp only [V] at hv ⊢;obtain ⟨r,c',k1,rfl,k2,klc,t,N,k3,k4⟩:=hv;obtain ⟨r',g1,g2,arr,et,fr,g3,g4,g5,_⟩:=I.live b _ hb;rw [k1] at g1;cases g1;rw [aS,bt] at e1
     have:=fS (l*z) (ib o g5)
     rw [BE] at this;exact ⟨r,o,c',h2 b r (by rw [hb];simp) k1,rfl,klc,ha e1 this⟩
   ·rename_i _ ll _ hb
    rw [pO] at e
    cases hc:Nat.ble (o+l*z) (ag ll.flatten) with
    |false=>rw [hc] at e;cases e
    |true=>
     rw [hc] at e;obtain ⟨cs',e1,rfl⟩:=mapO_inv e;simp only [V] at hv ⊢;obtain ⟨r,c',k1,rfl,k2,klc,t,N,k3,k4⟩:=hv;obtain ⟨r',g1,g2,g0,arr,et,fr,g3,g4,g5,_⟩:=I.live b _ hb;rw [k1] at g1;cases g1;rw [aS,bt] at e1
     have:=fS (l*z) (ib o g5)
     rw [BE] at this;exact ⟨r,o,c',h2 b r (by rw [hb];simp) k1,rfl,klc,ha e1 this⟩
   ·cases e
  case mpo b=>
   simp only [fzV] at e
   split at e
   ·rename_i ks vs hb
    have: ∃a c,jD (dc (fzV h k) ks)=some a∧jD (dc (fzV h k) vs)=some c∧v'= .mpp a c:=by
     cases h1:jD (dc (fzV h k) ks)<;>cases h2:jD (dc (fzV h k) vs)<;>rw [h1,h2] at e<;>cases e
     exact ⟨_,_,rfl,rfl,rfl⟩
    obtain ⟨a,c,e1,e2,rfl⟩:=this;simp only [V] at hv ⊢;obtain ⟨r,k1,rfl⟩:=hv;obtain ⟨r',g1,g2,es,ck,g3,g4,g5,g6⟩:=I.live b _ hb;rw [k1] at g1;cases g1;exact ⟨r,es,ck,h2 b r (by rw [hb];simp) k1,rfl,g3,hl e1 g4,hl e2 g5,g6⟩
   ·cases e
  case agg cs=>
   obtain ⟨cs',e1,rfl⟩:=mapO_inv e;simp only [V] at hv ⊢;obtain ⟨us,rfl,hv⟩:=hv;exact ⟨us,rfl,hl e1 hv⟩
  case tup cs=>
   obtain ⟨cs',e1,rfl⟩:=mapO_inv e;simp only [V] at hv ⊢;obtain ⟨us,rfl,hv⟩:=hv;exact ⟨us,rfl,hl e1 hv⟩
  case fn f a c=>cases e
  all_goals
   cases e
   refine V.up _ U (V.names (k:=0) _ (fun n r h=>absurd h (Cn n)) rfl hv)
end
end Go.Proofs.YtemmgalfdmnkoaaGreatDoor
