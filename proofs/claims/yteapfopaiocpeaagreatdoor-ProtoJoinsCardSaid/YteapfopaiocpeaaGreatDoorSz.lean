/- A reader of package scan: its beginning; all of it. -/
import Derived.Test.YteapfopaiocpeaaGreatDoorSv
namespace Go.Proofs.YteapfopaiocpeaaGreatDoor
set_option linter.unusedSimpArgs false
set_option linter.unusedVariables false
set_option linter.unnecessarySimpa false
set_option linter.defProp false
section
variable {mx:Int} {m:Nat} {K:RC} {kd:Nat→Nat} {h:AH} {p:Nat} {c:PC} {s:PR}
theorem am5 (σ:List AV) (h:AH) (B:Blk) (k:Tr→Option Rs):sMk σ h (fun h=>dY h B kVH) k=k ⟨σ,h,.pto h.length 0,h++[some B]⟩:=oK (v:=fun n=>.pto n 0) fun h=>by rw [dC];rfl
theorem ae8 (σ:List AV) (h:AH) (b:Option Blk) (k:Tr→Option Rs):sMk σ h (fun h=>some (.vh (.pto (List.length h) 0) (h++[b]))) k=k ⟨σ,h,.pto h.length 0,h++[b]⟩:=oK (v:=fun n=>.pto n 0) fun h=>rfl
theorem aqp (σ:List AV) (h:AH) (z:AV) (n:Nat) (hn:n≤1000000) (k:Tr→Option Rs):sMk σ h (fun h=>abZ 1 8 [z] (.int 9223372036854775807 (n:Int)) (.int 9223372036854775807 (n:Int)) h kVH) k=k ⟨σ,h,.slo h.length 0 n n 1 true,h++[some (.cells (nj [z] n) 0)]⟩:=oK (v:=fun m=>.slo m 0 n n 1 true) fun h=>by
 show bq (and (and (Nat.beq _ _) (Nat.beq _ _)) (and (Nat.ble n n) (and (Nat.ble (Nat.mul 8 n) 1099511627776) (Nat.ble n 1099511627776)))) (kVH (.slo (aj h) 0 n n 1 true) (aJ h [some (.cells (nj [z] n) 0)])) none=_
 rw [jr,bL,bL,bL,decide_eq_true rfl,decide_eq_true (Nat.le_refl _),decide_eq_true (show Nat.mul 8 n≤1099511627776 by show 8*n≤_;omega),decide_eq_true (show n≤1099511627776 by omega),ah,aP];rfl
theorem ap9 (σ:List AV) (h:AH) (z:List AV) (k:Tr→Option Rs):sMk σ h (fun h=>abZ 2 16 z (.int 9223372036854775807 0) (.int 9223372036854775807 0) h kVH) k=k ⟨σ,h,.slo h.length 0 0 0 2 true,h++[some (.cells [] 0)]⟩:=oK (v:=fun m=>.slo m 0 0 0 2 true) fun h=>by
 show kVH (.slo (aj h) 0 0 0 2 true) (aJ h [some (.cells [] 0)])=_
 rw [ah,aP];rfl
theorem aqc (σ:List AV) (h:AH) (k:Tr→Option Rs):sMk σ h (fun h=>fD 4 1 [.int 18446744073709551615 0,.bool false,.nils,.nils] [(0,.agg [.int 18446744073709551615 0,.bool false,.nils,.nils])] h kVH) k=k ⟨σ,h,.slo h.length 0 1 1 4 true,h++[some (.cells ZT 0)]⟩:=oK (v:=fun m=>.slo m 0 1 1 4 true) fun h=>by rw [adq];rfl
theorem anh (σ:List AV) (h:AH) (y:Nat) (cs:List AV) (hp:(AV.agg cs).nb=true) (k:Tr→Option Rs):sMk σ h (fun h=>gZ y (.agg cs) h kVH) k=k ⟨σ,h,.pto h.length 0,h++[some (.cells cs y)]⟩:=oK (v:=fun n=>.pto n 0) fun h=>by rw [dP,hp];rfl
noncomputable def hidS (ih:List Nat) (o:Option Tr):List Nat:=Option.rec (motive:=fun _=>List Nat) ih (fun r=>bq (Nat.beq (aj r.h') (aj r.h)) ih (aj r.h::ih)) o
theorem amE (tr:List Tr):dJ tr []=[]:=rfl
theorem anV (tr:List Tr) (j:Nat) (l:List Nat):dJ tr (j::l)=hidS (dJ tr l) (dL tr j):=rfl
theorem akW (ih:List Nat) (σ:List AV) (h:AH) (v:AV) (b:Option Blk):hidS ih (some ⟨σ,h,v,h++[b]⟩)=h.length::ih:=by
 show bq (Nat.beq (aj (h++[b])) (aj h)) ih (aj h::ih)=_
 rw [jr,ah,ah,decide_eq_false (by simp)];rfl
theorem anZ {place:Nat→Option (Nat×Nat)} {P0 N1 N2 P3 P4 tb v1 i0 i1 i2 sl sm st:AV} (f0:place 0=some (0,4)) (f1:place 1=some (4,1)) (f2:place 2=some (5,1)) (f3:place 3=some (6,1)) (f4:place 4=some (7,3)) (f9:place 9=some (14,1)) (f10:place 10=some (15,1)) (f11:place 11=some (16,1))
 (h4:P4.nb=true∧P4.cells=[P4]) (htb:tb.nb=true∧tb.cells=[tb]) (hv:v1.nb=true∧v1.cells=[v1]) (hsl:sl.nb=true∧sl.cells=[sl]) (hsm:sm.nb=true∧sm.cells=[sm]) (hst:st.nb=true∧st.cells=[st]) (h:AH) (κ:Ka):
 gU place [.nils,.int 9223372036854775807 0,.int 9223372036854775807 0,.int 9223372036854775807 0,.nils,.nil,.nils,.int 9223372036854775807 0,.int 9223372036854775807 0,.int 9223372036854775807 0,.int 9223372036854775807 0,.int 9223372036854775807 0,.int 9223372036854775807 0,.int 9223372036854775807 0,.nils,.nils,.nils,.nils,.nils,.nils,.int 9223372036854775807 0,.int 9223372036854775807 0]
  [(0,.agg [P0,N1,N2,P3]),(1,P4),(2,tb),(3,v1),(4,.agg [i0,i1,i2]),(9,sl),(10,sm),(11,st)] h κ=κ (.agg [P0,N1,N2,P3,P4,tb,v1,i0,i1,i2,.int 9223372036854775807 0,.int 9223372036854775807 0,.int 9223372036854775807 0,.int 9223372036854775807 0,sl,sm,st,.nils,.nils,.nils,.int 9223372036854775807 0,.int 9223372036854775807 0]) h:=by
 refine eB ?_
 simp only [aab,aaf,f0,f1,f2,f3,f4,f9,f10,f11,h4.1,h4.2,htb.1,htb.2,hv.1,hv.2,hsl.1,hsl.2,hsm.1,hsm.2,hst.1,hst.2]
 kernel_rfl
structure vW (h:AH) (rp P0 P3 P4:AV) (ns:Nat):Prop where
 nil: ∀(h':AH) (κ:Ka),aC rp h' κ=κ rp h'
 ld0: ∃M,(∀(h':AH) (κ:Ka),ao 0 rp h' κ=κ M h')∧ ∀h',(∀i,i<h.length→ae h' i=ae h i)→ ∀κ:Ka,aQ 4 M h' κ=κ (.agg [P0,N64 ns,N64 0,P3]) h'
 ld4: ∃M,(∀(h':AH) (κ:Ka),ao 4 rp h' κ=κ M h')∧ ∀h',(∀i,i<h.length→ae h' i=ae h i)→ ∀κ:Ka,ar M h' κ=κ P4 h'
theorem vW.pure (h:AH) (P0 P3 P4 P5:AV) (ns:Nat):vW h (.ptp [P0,N64 ns,N64 0,P3,P4,P5] 0) P0 P3 P4 ns:=
 ⟨fun h' κ=>rfl,⟨.ptp [P0,N64 ns,N64 0,P3,P4,P5] 0,fun h' κ=>rfl,fun h' _ κ=>rfl⟩,⟨.ptp [P0,N64 ns,N64 0,P3,P4,P5] 4,fun h' κ=>rfl,fun h' _ κ=>rfl⟩⟩
theorem vW.blk {h:AH} {br yr:Nat} {P0 P3 P4 P5:AV} {ns:Nat} (hb:ae h br=some (.cells [P0,N64 ns,N64 0,P3,P4,P5] yr)):vW h (.pto br 0) P0 P3 P4 ns:=
 ⟨fun h' κ=>rfl,⟨.pto br 0,fun h' κ=>rfl,fun h' f κ=>by rw [kT,f br (aO hb),hb];rfl⟩,⟨.pto br 4,fun h' κ=>rfl,fun h' f κ=>by rw [jS,f br (aO hb),hb];rfl⟩⟩
def PR.init (ns:Nat):PR:=⟨0,0,0,List.replicate ns 0,[.nd 0 false [] []],[],[],0,0⟩
theorem agu {rp P0 P3 P4 v1:AV} {ns inp dep tok n M:Nat} {data:List Nat} {P:List PS} {t:PR} (hb:vW h rp P0 P3 P4 ns)
 (h4:P4.nb=true∧P4.cells=[P4]) (hv:v1.nb=true∧v1.cells=[v1]) (hpl:aR [P0,N64 ns,N64 0,P3]=true) (D:uv h.length h v1 (aS data)) (hd: ∀b∈data,b<256) (hdl:data.length≤1000000) (hin:data.length≤inp∧inp≤1000000000000) (hns:ns≤1000000)
 (hP:P.length≤1000000) (hM: ∀q∈P,q.ways.length≤M) (A: ∀i q,P[i]? =some q→ox h.length h P0 i q) (r:cq ⟨data,dep,tok⟩ P 0 (PR.init ns) t n) (hat:t.at_≤1000000000) (hst:(t.rest ⟨data,dep,tok⟩).code=0→ ∃n b d t0 ks,t.stack=[.nd n b d (t0::ks)]) (f:Nat):
 aG (ScR h.length h (t.rest ⟨data,dep,tok⟩)) ((rl (CL mx) (f+n+M+110)).run 72 [rp,v1,.agg [N64 inp,N64 dep,N64 tok]] h):=by
 refine aG.runs (n:=f+n+M+109) (aj0 mx _ _ _ _ _ _) ?_
 obtain ⟨nil,⟨M0,mv0,ld0⟩,⟨M4,mv4,ld4⟩⟩:=hb
 have hb3: ∀(A B C:Option Blk) (κ:Ka),aQ 4 M0 (h++[A]++[B]++[C]) κ=κ (.agg [P0,N64 ns,N64 0,P3]) (h++[A]++[B]++[C]):=fun A B C κ=>ld0 _ (fun i hi=>by
  rw [aq (by rw [List.length_append,List.length_append];omega),aq (by rw [List.length_append];omega),aq hi]) κ
 have st3: ∀(A B C:Option Blk) (y:Nat) (κ:Ka),aK 4 (.pto (h.length+1+1+1) 0) (.agg [P0,N64 ns,N64 0,P3]) (h++[A]++[B]++[C]++[some (.cells [.nils,.int 9223372036854775807 0,.int 9223372036854775807 0,.int 9223372036854775807 0] y)]) κ=κ (.tup []) (h++[A]++[B]++[C]++[some (.cells [P0,N64 ns,N64 0,P3] y)]):=fun A B C y κ=>by
  have e:=cY (h:=h++[A]++[B]++[C]) (n:=4) (Z:=[.nils,.int 9223372036854775807 0,.int 9223372036854775807 0,.int 9223372036854775807 0]) (y:=y) (κ:=κ) (E:=[P0,N64 ns,N64 0,P3]) rfl rfl hpl
  have l:(h++[A]++[B]++[C]).length=h.length+1+1+1:=by simp
  rwa [l] at e
 simp only [sy,List.length_append,Nat.reduceAdd,Nat.reduceMul,Nat.reduceSub,Nat.reduceLeDiff,Nat.reduceEqDiff,Nat.reduceLT,reduceIte,st3,afi,dP,show (AV.agg [N64 inp,N64 dep,N64 tok]).nb=true from rfl,show (AV.agg [N64 inp,N64 dep,N64 tok]).cells=[N64 inp,N64 dep,N64 tok] from rfl,dC,nil,mv0,hb3,List.take_succ_cons,List.take_zero,List.length_cons,List.length_nil,List.drop_succ_cons,List.drop_zero,List.drop_nil,List.append_nil,hpl,decide_true]
 obtain ⟨H,hH⟩: ∃H:AH,H=h++[some (Blk.cells [N64 inp,N64 dep,N64 tok] (33+1))]++[some (Blk.cells [AV.int 18446744073709551615 0,AV.bool false,AV.nils,AV.nils] (69+1))]++[some (Blk.cells [AV.int 9223372036854775807 0,AV.int 9223372036854775807 0] (27+1))]++[some (Blk.cells [P0,N64 ns,N64 0,P3] (237+1))]:=⟨_,rfl⟩
 have eq0:h++[some (Blk.cells [N64 inp,N64 dep,N64 tok] (33+1))]++[some (Blk.cells [AV.int 18446744073709551615 0,AV.bool false,AV.nils,AV.nils] (69+1))]++[some (Blk.cells [AV.int 9223372036854775807 0,AV.int 9223372036854775807 0] (27+1))]++[some (Blk.cells [P0,N64 ns,N64 0,P3] (237+1))]=H:=hH.symm
 have lH:H.length=h.length+4:=by rw [hH];simp
 have x0:ae H h.length=some (.cells [N64 inp,N64 dep,N64 tok] (33+1)):=by rw [hH,aq (by simp),aq (by simp),aq (by simp),aI]
 have x1:ae H (h.length+1)=some (.cells [AV.int 18446744073709551615 0,AV.bool false,AV.nils,AV.nils] (69+1)):=by
  rw [hH,aq (by simp),aq (by simp)]
  have:=aI (h++[some (Blk.cells [N64 inp,N64 dep,N64 tok] (33+1))]) (some (Blk.cells [AV.int 18446744073709551615 0,AV.bool false,AV.nils,AV.nils] (69+1)))
  rwa [List.length_append] at this
 have x2:ae H (h.length+1+1)=some (.cells [AV.int 9223372036854775807 0,AV.int 9223372036854775807 0] (27+1)):=by
  rw [hH,aq (by simp)]
  have:=aI (h++[some (Blk.cells [N64 inp,N64 dep,N64 tok] (33+1))]++[some (Blk.cells [AV.int 18446744073709551615 0,AV.bool false,AV.nils,AV.nils] (69+1))]) (some (Blk.cells [AV.int 9223372036854775807 0,AV.int 9223372036854775807 0] (27+1)))
  rwa [List.length_append,List.length_append] at this
 have x3:ae H (h.length+1+1+1)=some (.cells [P0,N64 ns,N64 0,P3] (237+1)):=by
  rw [hH]
  have:=aI (h++[some (Blk.cells [N64 inp,N64 dep,N64 tok] (33+1))]++[some (Blk.cells [AV.int 18446744073709551615 0,AV.bool false,AV.nils,AV.nils] (69+1))]++[some (Blk.cells [AV.int 9223372036854775807 0,AV.int 9223372036854775807 0] (27+1))]) (some (Blk.cells [P0,N64 ns,N64 0,P3] (237+1)))
  rwa [List.length_append,List.length_append,List.length_append] at this
 have xo: ∀i,i<h.length→ae H i=ae h i:=fun i hi=>by
  rw [hH,aq (by simp;omega),aq (by simp;omega),aq (by simp;omega),aq hi]
 rw [eq0]
 clear eq0 hH
 have xb: ∀κ:Ka,ar M4 H κ=κ P4 H:=fun κ=>ld4 H xo κ
 have bl1: ∀(T:Option Blk) (i:Nat),i<H.length→ae (dy [H.length] (H++[T])) i=ae H i:=fun T i hi=>by
  rw [fH,if_neg (by simp;omega),aq hi]
 have bl2: ∀(T U:Option Blk) (i:Nat),i<H.length→ae (dy [H.length,H.length+1] (H++[T]++[U])) i=ae H i:=fun T U i hi=>by
  rw [fH,if_neg (by simp;omega),aq (by simp;omega),aq hi]
 have q1: ∀T:Option Blk,ae (dy [H.length] (H++[T])) h.length=some (.cells [N64 inp,N64 dep,N64 tok] (33+1)):=fun T=>(bl1 T _ (by omega)).trans x0
 have q3: ∀T:Option Blk,ae (dy [H.length] (H++[T])) (h.length+1+1+1)=some (.cells [P0,N64 ns,N64 0,P3] (237+1)):=fun T=>(bl1 T _ (by omega)).trans x3
 have q4: ∀T U:Option Blk,ae (dy [H.length,H.length+1] (H++[T]++[U])) (h.length+1+1+1)=some (.cells [P0,N64 ns,N64 0,P3] (237+1)):=fun T U=>(bl2 T U _ (by omega)).trans x3
 have mx0:max (0:Int) (inp:Int)=(inp:Int):=by omega
 have capb: ∀(a b c:Int) (h:AH) (κ:Ka),gU (placeOf (CL mx) [(0,3),(1,3),(2,3)]) [.int 9223372036854775807 0,.int 9223372036854775807 0,.int 9223372036854775807 0] [(0,.int 9223372036854775807 a),(1,.int 9223372036854775807 b),(2,.int 9223372036854775807 c)] h κ=κ (.agg [.int 9223372036854775807 a,.int 9223372036854775807 b,.int 9223372036854775807 c]) h:=fun a b c h κ=>eB (by kernel_rfl)
 have mkl:=fun σ h z k=>aqp σ h z ns hns k
 have mkb:=fun σ h y cs k=>anh σ h y cs rfl k
 simp only [sy,List.length_append,Nat.reduceAdd,Nat.reduceMul,Nat.reduceSub,Nat.reduceLeDiff,Nat.reduceEqDiff,Nat.reduceLT,reduceIte,agj,fN,fV,nil,mv4,x3,xb,n64,List.take_succ_cons,List.take_zero,List.length_cons,List.length_nil,List.drop_succ_cons,List.drop_zero,ae8,ap9,aqc,mkl,mkb,amE,anV,akW,bt,List.getElem?_cons_succ,List.getElem?_cons_zero,q1,q3,q4,max_eq,mx0,capb,mU,show ((0:Nat):Int)=0 from rfl,decide_true]
 rw [anZ (place:=placeOf (CL mx) _) ?_ ?_ ?_ ?_ ?_ ?_ ?_ ?_ h4 ?_ hv ?_ ?_ ?_]
 rotate_left
 all_goals first|kernel_rfl|exact ⟨rfl,rfl⟩|skip
 have nbA: ∀cs:List AV,(AV.agg cs).nb=true:=fun _=>rfl
 have ceA: ∀cs:List AV,(AV.agg cs).cells=cs:=fun _=>rfl
 simp only [sy,List.length_append,Nat.reduceAdd,Nat.reduceMul,Nat.reduceSub,Nat.reduceLeDiff,Nat.reduceEqDiff,Nat.reduceLT,reduceIte,fN,fV,nbA,ceA,ae8,fB]
 obtain ⟨T,hT⟩: ∃T:Option Blk,T=some (Blk.cells xE (245+1)):=⟨_,rfl⟩
 rw [←hT]
 clear hT
 have rdl:([P0,AV.int 9223372036854775807 ↑ns,AV.int 9223372036854775807 0,P3,P4,AV.pto (List.length H) 0,v1,AV.int 9223372036854775807 ↑inp,AV.int 9223372036854775807 ↑dep,AV.int 9223372036854775807 ↑tok,AV.int 9223372036854775807 0,AV.int 9223372036854775807 0,AV.int 9223372036854775807 0,AV.int 9223372036854775807 0,AV.slo (List.length H+1) 0 ns ns 1 true,AV.slo (List.length H+1+1) 0 0 0 2 true,AV.slo (List.length H+1+1+1) 0 1 1 4 true,AV.nils,AV.nils,AV.nils,AV.int 9223372036854775807 0,AV.int 9223372036854775807 0]:List AV)=
  rdL ⟨P0,N64 ns,N64 0,P3,P4,.pto H.length 0,v1,inp,.slo (H.length+1+1) 0 0 0 2 true⟩ ⟨data,dep,tok⟩ (PR.init ns) 0 (AV.slo (List.length H+1) 0 ns ns 1 true) (AV.slo (List.length H+1+1+1) 0 1 1 4 true) .nils .nils:=rfl
 rw [rdl]
 clear rdl
 generalize hK:(⟨P0,N64 ns,N64 0,P3,P4,.pto H.length 0,v1,inp,.slo (H.length+1+1) 0 0 0 2 true⟩:RC)=KK
 have kP:KK.p0=P0:=by rw [←hK]
 have kv:KK.dv=v1:=by rw [←hK]
 have ki:KK.inp=inp:=by rw [←hK]
 clear hK
 generalize hS:(some (Blk.cells (nj [AV.int 18446744073709551615 0] ns) 0))=SB
 generalize hR:some (Blk.cells (rdL KK ⟨data,dep,tok⟩ (PR.init ns) 0 (AV.slo (List.length H+1) 0 ns ns 1 true) (AV.slo (List.length H+1+1+1) 0 1 1 4 true) .nils .nils) (248+1))=RB
 obtain ⟨H5,h5⟩: ∃H5:AH,H5=H++[T]++[SB]++[some (Blk.cells [] 0)]++[some (Blk.cells ZT 0)]++[RB]:=⟨_,rfl⟩
 rw [←h5]
 have l5:H5.length=H.length+5:=by rw [h5];simp
 have y1:ae H5 (H.length+1)=SB:=by
  rw [h5,aq (by simp),aq (by simp),aq (by simp)]
  have:=aI (H++[T]) SB
  rwa [List.length_append] at this
 have y3:ae H5 (H.length+1+1+1)=some (.cells ZT 0):=by
  rw [h5,aq (by simp)]
  have:=aI (H++[T]++[SB]++[some (Blk.cells [] 0)]) (some (Blk.cells ZT 0))
  rwa [List.length_append,List.length_append,List.length_append] at this
 have y4:ae H5 (H.length+1+1+1+1)=RB:=by
  rw [h5]
  have:=aI (H++[T]++[SB]++[some (Blk.cells [] 0)]++[some (Blk.cells ZT 0)]) RB
  rwa [List.length_append,List.length_append,List.length_append,List.length_append] at this
 have yo: ∀i,i<H.length→ae H5 i=ae H i:=fun i hi=>by
  rw [h5,aq (by simp;omega),aq (by simp;omega),aq (by simp;omega),aq (by simp;omega),aq hi]
 clear h5
 let kd:Nat→Nat:=fun i=>if i=H.length+1+1+1+1 then 1 else if i=H.length+1 then 2 else if i=H.length+1+1+1 then 3 else 0
 have k1:kd (H.length+1+1+1+1)=1:=if_pos rfl
 have k2:kd (H.length+1)=2:=by show (if H.length+1=H.length+1+1+1+1 then 1 else if H.length+1=H.length+1 then 2 else _)=2;rw [if_neg (by omega),if_pos rfl]
 have k3:kd (H.length+1+1+1)=3:=by show (if H.length+1+1+1=H.length+1+1+1+1 then 1 else if H.length+1+1+1=H.length+1 then 2 else if H.length+1+1+1=H.length+1+1+1 then 3 else 0)=3;rw [if_neg (by omega),if_neg (by omega),if_pos rfl]
 have k0: ∀i,i<H.length→kd i=0:=fun i hi=>by show (if i=H.length+1+1+1+1 then 1 else if i=H.length+1 then 2 else if i=H.length+1+1+1 then 3 else 0)=0;rw [if_neg (by omega),if_neg (by omega),if_neg (by omega)]
 have R5:RS h.length KK kd H5 (H.length+1+1+1+1) ⟨data,dep,tok⟩ (PR.init ns):=by
  refine ⟨⟨0,248+1,.slo (H.length+1) 0 ns ns 1 true,.slo (H.length+1+1+1) 0 1 1 4 true,.nils,.nils,[ZT],by rw [y4,←hR],⟨?_,.inr ⟨H.length+1,ns,true,[],0,k2,?_,?_,?_,?_⟩⟩,⟨?_,.inr ⟨H.length+1+1+1,1,true,[],0,k3,⟨rfl,by rw [y3];rfl,Nat.le_refl _,rfl⟩⟩⟩,⟨?_,trivial⟩,⟨by simp [PR.init],.inl ⟨rfl,rfl⟩⟩,⟨by simp [PR.init],.inl ⟨rfl,rfl⟩⟩⟩,k1,fun i hi=>k0 i (by omega),by omega,?_,by rw [ki];exact hin,hd,hdl⟩
  ·intro r hr
   obtain ⟨x,_,rfl⟩:=List.mem_map.1 hr
   rfl
  ·simp [PR.init]
  ·rw [y1,←hS]
   have:nj [AV.int 18446744073709551615 0] ns=((PR.init ns).slots.map fun n=>[U64 n]).flatten:=by
    rw [←rP,iJ]
    show _=(List.map (fun n=>[U64 n]) (List.replicate ns 0)).flatten
    rw [List.map_replicate];rfl
   rw [this,List.append_nil]
  ·simp [PR.init]
  ·rw [jM (z:=1) fun r hr=>by
    obtain ⟨x,_,rfl⟩:=List.mem_map.1 hr
    rfl]
   simp [PR.init]
  ·intro r hr
   obtain rfl:r=ZT:=by simpa using hr
   rfl
  ·unfold fK
   exact ⟨.nils,.nils,rfl,.inl ⟨rfl,rfl⟩,.inl ⟨rfl,rfl⟩⟩
  ·rw [kv]
   exact D.frm fun i hi=>(yo i (by omega)).trans (xo i hi)
 have yx: ∀i,i<h.length→ae H5 i=ae h i:=fun i hi=>(yo i (by omega)).trans (xo i hi)
 refine wEq (afD ..) ?_
 refine wEq (ahr ..) ?_
 refine amb (n0:=H.length) (M:=M) hP hM (by omega) r kd H5 (f+n+M+109) _ (by omega) R5 (fun i q e=>by rw [kP];exact (A i q e).frm yx) (by omega) fun h' i' v46 nx=>?_
 obtain ⟨kd',R',l',f'⟩:=nx
 have z1:=f' (h.length+1) (by omega) (k0 _ (by omega))
 have z2:=f' (h.length+1+1) (by omega) (k0 _ (by omega))
 have se:=anv (mx:=mx) (n0:=h.length) (b6:=h.length+1) (b8:=h.length+1+1) (lp:=(rl (CL mx) (f+n+M+109)).lp) (v0:=rp) (v2:=.agg [.int 9223372036854775807 (inp:Int),.int 9223372036854775807 (dep:Int),.int 9223372036854775807 (tok:Int)]) (v5:=.pto h.length 0) (v7:=.int 9223372036854775807 0) (v9:=.pto (h.length+1+1+1) 0) (v11:=.int 9223372036854775807 i') (v46:=v46) (v67:=.bot) (v76:=.bot) R' hat (z1.1.trans ((yo _ (by omega)).trans x1)) rfl (z2.1.trans ((yo _ (by omega)).trans x2)) rfl z1.2 z2.2 (by omega) (by omega) (by omega) (by omega) (fun i hi=>(f' i (by omega) (k0 i (by omega))).2) hst (f+n+M+106)
 rw [kv] at se
 obtain ⟨x,h2,e,s1,s2,s3⟩:=se
 exact ⟨x,h2,e,s1,fun i hi=>(s2 i hi).trans ((f' i (by omega) (k0 i (by omega))).1.trans (yx i hi)),s3⟩
end
end Go.Proofs.YteapfopaiocpeaaGreatDoor
