/- The statement DnsReadsCardSaid: every call of guipurelaw29.DnsReads returns true, whatever its arguments, and leaves all that was there as it was; the listed package-level variables read as the program's own text lays them (the tie is given). No condition is added. The run is proved in Cl Gl; this is the frame of the row and its card. -/
import Derived.Test.YtemmgalfdmnkoaaGreatDoorTie
import Derived.Test.YtemmgalfdmnkoaaGreatDoorCards
import Derived.Test.YtemmgalfdmnkoaaGreatDoorLB
import Derived.Test.YtemmgalfdmnkoaaGreatDoorLF
import Derived.Test.YtemmgalfdmnkoaaGreatDoorMF
import Derived.WalkKit
import Derived.ProofKit
import Derived.OpenShut
import Derived.ShutString
import Derived.ChangeOld
import Derived.Below
import Derived.LaidMore
import Derived.Lay
import Derived.SevenTiedAt
import Derived.Stop.Joined
namespace Go.Proofs.YtemmgalfdmnkoaaGreatDoor.dnsReads
open Go.ChangeShapes Go.WideShapes Go.ChangeAt Go.RowKit
set_option linter.unusedVariables false
set_option linter.unusedSimpArgs false
set_option linter.unnecessarySimpa false
theorem own:ownKnob Tryz.prog.godebug=none:=by kernel_rfl
theorem laidOut:laidOutB Tryz.prog=true:=by kernel_rfl
theorem closed:tI Tryz.prog [22,5]=true:=by kernel_rfl
/-- What lies there, as the run wants it. -/
theorem laid_inv {W:World} (h:laidMetH Tryz.prog Rows.dnsReadsRow.laid W) (hs:W.ShapedOpen Tryz.prog): ∃mx,Inv (C0 mx) (· <W.heap.size) W ρ0 []:=by
 obtain ⟨mx,hm⟩:=abg hs;rw [MakeChecks.laidMetH_plain _ _ _ (by kernel_rfl)] at h;obtain ⟨ps,hL,_,_⟩:=h;obtain ⟨g0,t0,cs0,f0,p0,q0,hg0,ht0,hv0,hd0,hL,_⟩:=hL;obtain ⟨g1,t1,cs1,f1,p1,q1,hg1,ht1,hv1,hd1,hL,_⟩:=hL;obtain ⟨g2,t2,cs2,f2,p2,q2,hg2,ht2,hv2,hd2,hL,_⟩:=hL;obtain ⟨g3,t3,cs3,f3,p3,q3,hg3,ht3,hv3,hd3,hL,_⟩:=hL;obtain ⟨g4,t4,cs4,f4,p4,q4,hg4,ht4,hv4,hd4,hL,_⟩:=hL
 obtain rfl := Cb ((show Tryz.prog.globalNamed "strings.asciiSpace" = some 0 by kernel_rfl).symm.trans hg4);obtain rfl:=Cb ((show (Tryz.prog.globals[0]?).map (·.type)=some 314 by kernel_rfl).symm.trans ht4);exact ⟨mx,inv0 (aqA hv4 hd4) hm⟩
set_option maxRecDepth 100000 in
theorem lifted (os:Os) (started:os.Started) (H:Type) (enc:TypeId×Value→H):
 ReturnsInHanded {} Tryz.checked os 3 .any (fun w args=>(Rows.dnsReadsSpec.pre enc Tryz.prog Tryz.f3 Rows.dnsReadsRow.domain false w args∧laidMetH Tryz.prog Rows.dnsReadsRow.laid w)∧sizedMet enc Tryz.prog Tryz.f3 (OpenSpec.ofChange Rows.dnsReadsSpec) false w args)
  (Rows.dnsReadsSpec.post enc Tryz.prog Tryz.f3 false true false false):=by
 refine yB (C:=Tryz.checked) (X:=fun w _=>laidMetH Tryz.prog Rows.dnsReadsRow.laid w) (fun _ _ _ hh h=>h.of_heap hh) own started (by kernel_rfl) Tryz.func3
  (ChangeSpec.witness_shaped (enc:=enc) (C:=Tryz.checked) (os:=os) (X:=fun w _=>laidMetH Tryz.prog Rows.dnsReadsRow.laid w) false (World.laidAll Tryz.prog os Rows.dnsReadsRow.laid) #[.slice none 0 0] 8 (World.laidAll_os _ _ _)
   (World.shaped_of_ZipB (by kernel_rfl) (by kernel_rfl)) (by kernel_rfl) (by kernel_rfl) (by kernel_rfl)
   (by rw [MakeChecks.laidMetH_plain _ _ _ (by kernel_rfl)];exact laidMet_laidAll _ (by kernel_rfl) (by kernel_rfl))) ?_
 intro W base args ds gs before hval0 hW hL hS;have hval: ∀(j:Nat) t v,Tryz.f3.params[j]? =some t→args[j]? =some v→Value.okWide Tryz.prog W .any base t v:=hval0;have hW':=hW;obtain ⟨p,q,hA0,hV,rfl,hfz,hnd⟩:=hW;have hA:DataW.TrodAll enc Tryz.prog W 0 (fun _=>true) true Tryz.f3.params.toList args.toList ds p:=hA0;rw [Tryz.params3] at hA hval;obtain ⟨v0,vs0,d0,ds0,p0,q0,hargs,rfl,rfl,h0,r0⟩:=trodAll_cons hA;obtain ⟨rfl,rfl,rfl⟩:=trodAll_nil r0;obtain rfl:args= #[v0]:=by cases args;simp_all
 obtain ⟨rfl,rfl⟩:=trodVars_none hV;obtain ⟨mx,I⟩:=laid_inv hL hS;have lt0: ∀x∈p0,x.block<W.heap.size:=by obtain ⟨m,hm⟩:=h0;exact DataW.trod_lt m _ _ _ hm
 obtain ⟨n0,a0,k0,ty0⟩:=ava laidOut closed (t:=22) (by decide) (hval 0 22 v0 rfl rfl) h0 lt0;clear hA0 hval0;have hvl:VL (· <W.heap.size) W [a0] ρ0 #[v0].toList:=by
  simp only [VL];exact ⟨_,_,rfl,k0,rfl⟩
 refine (uj I hvl ty0).mono fun e W' ⟨he,bel⟩=>?_
 subst he;exact ⟨_,rfl,_,_,_,[],_,[],hW',trodAll_mk1 (shut_bool Tryz.underlying4 _),(trodAll_cons_mk (Below.trod laidOut (by kernel_rfl) (of_decide_eq_true (by kernel_rfl)) h0 bel lt0) trodAll_mk0),rfl,bel.frame _,fun h=>by cases h⟩
theorem and2 {a b:Bool} (x:a=true) (y:b=true):(a&&b)=true:=by rw [x,y];rfl
theorem fMaps:mapsRowed Tryz.prog=true:=by kernel_rfl
theorem fIn:(Rows.dnsReadsRow.inPlace==Tryz.prog.inPlace 3)=true:=by kernel_rfl
theorem fUn:(Rows.dnsReadsRow.unfollowed==Tryz.prog.unfollowed 3)=true:=by kernel_rfl
theorem fRec:(Rows.dnsReadsRow.recurses==Tryz.prog.recurses 3)=true:=by kernel_rfl
theorem fNamed:(Rows.dnsReadsRow.named==Tryz.prog.varsNamed 3)=true:=by kernel_rfl
theorem fKeys:(Rows.dnsReadsRow.plainKeys==Tryz.prog.plainKeys)=true:=by kernel_rfl
theorem fHeard:Tryz.prog.stopsHeard=true:=by kernel_rfl
theorem fEnter:Tryz.prog.mayEnter=true:=by kernel_rfl
theorem fMain : Tryz.pinned.checked.prog.mainIs = some ((true, "d33b341dfe256838bfcd23d2138ad830af2f1825b5606db600069709baa8e7d4").1, (true, "d33b341dfe256838bfcd23d2138ad830af2f1825b5606db600069709baa8e7d4").2.toList) := by kernel_rfl
theorem fLooks:false=Tryz.prog.looks []:=by kernel_rfl
theorem noGo:(Tryz.prog.funcs.toList.all fun fn=> !fn.goes)=true:=by kernel_rfl
/-- Where no function starts another goroutine, none that is met does. -/
theorem goes_none {P:Program} (h:(P.funcs.toList.all fun fn=> !fn.goes)=true) (f:FuncId):P.goes f=false:=by
 have one: ∀g:FuncId,(P.funcs[g]?).any Func.goes=false:=fun g=>by
  cases e:P.funcs[g]? with
  |none=>rfl
  |some fn=>
   have:=BG.1 h fn (by rw [BP];exact Array.mem_of_getElem? e)
   simpa using this
 have all:P.funcs.any Func.goes=false:=by
  rw [←Array.any_toList];rw [List.any_eq_false];intro fn hf
  have:=BG.1 h fn hf
  simpa using this
 unfold Program.goes;rw [all,Bool.and_false,Dq,BD];intro c;simp only [one] at c
 revert c
 generalize P.closure f=l
 simp
theorem goesBy_none {P:Program} (h:(P.funcs.toList.all fun fn=> !fn.goes)=true) (c:OpenClaim):c.goesBy P=false:=by
 have e1:P.goesFrom c.func=false:=by
  unfold Program.goesFrom
  cases P.funcNamed c.func with
  |none=>rfl
  |some g=>exact goes_none h g
 have e2:P.inits.toList.any P.goes=false:=by
  rw [List.any_eq_false];intro g _;rw [goes_none h g];exact Bool.false_ne_true
 unfold OpenClaim.goesBy Program.goesAt;rw [e1,Bool.false_or]
 split
 ·rfl
 ·exact e2
theorem pin:Tryz.pinned.checked.prog=Tryz.prog:=by kernel_rfl
theorem fGoes:false=Rows.dnsReadsRow.goesBy Tryz.pinned.checked.prog:=by
 rw [pin];exact (goesBy_none noGo _).symm
theorem joined:joinedFacts Tryz.prog 3 Tryz.f3 Rows.dnsReadsSpec Rows.dnsReadsRow=true:=by
 unfold joinedFacts
 repeat' with_reducible refine and2 ?_ ?_
 all_goals first|with_reducible exact laidOut|with_reducible exact fMaps|with_reducible exact fIn|with_reducible exact fUn|with_reducible exact fRec|with_reducible exact fNamed|with_reducible exact fKeys|with_reducible exact fHeard|with_reducible exact fEnter|kernel_rfl
theorem over:Rows.dnsReadsRow.holds Tryz.pinned (OpenSpec.ofChange Rows.dnsReadsSpec):=
 OpenClaim.holds_of_wide 3 Tryz.f3 rfl rfl rfl rfl rfl rfl rfl ⟨rfl,rfl,rfl,rfl,rfl⟩ rfl rfl rfl rfl rfl (by kernel_rfl) Tryz.func3 joined
  (of_decide_eq_true (by kernel_rfl)) (by unfold Func.isWrapper;first|(rw [if_pos (by decide+kernel)];kernel_rfl)|(rw [if_neg (by decide+kernel)];exact ⟨rfl,rfl⟩))
  (fun os started H enc _=>lifted os started H enc)
theorem proved:Rows.DnsReadsCardSaid:=
 Claim7.holds_tied_plain_at .later [] [.data, .data, .data, .listed, .data] true (true, "d33b341dfe256838bfcd23d2138ad830af2f1825b5606db600069709baa8e7d4") false
  over (fun _ h=>by cases h) (by kernel_rfl) (fun _ h=>by cases h) dnsReads_row_tie rfl ⟨rfl,rfl⟩ fMain rfl
  (fun f fn hf hfn=>by
   obtain rfl : f = 3 := Cb ((show Tryz.prog.funcNamed "guipure/guipurelaw29.DnsReads" = some 3 by kernel_rfl).symm.trans hf) |>.symm;obtain rfl:fn=Tryz.f3:=(Cb (Tryz.func3.symm.trans hfn)).symm;exact ⟨fLooks,fun j t ht=>by
    rw [Tryz.params3] at ht;have hm:t∈[22]:=by simpa using Array.mem_of_getElem? ht
    have hall:([22].all fun u=> !Tryz.prog.wantsStandIn u)=true:=by kernel_rfl
    exact (show Tryz.prog.wantsStandIn t=false by simpa using BG.1 hall t hm)⟩)
  fGoes
#print axioms proved
end Go.Proofs.YtemmgalfdmnkoaaGreatDoor.dnsReads
