/- Package proto's program in memory; an item asked first; what Read answers. -/
import Derived.Test.YteapfopaiocpeaaGreatDoorRk
namespace Go.Proofs.YteapfopaiocpeaaGreatDoor
set_option linter.unusedSimpArgs false
set_option linter.unusedVariables false
set_option linter.unnecessarySimpa false
set_option linter.defProp false
noncomputable section
def ptpC:AV→List AV
 | .ptp c _=>c
 |_=>[]
def slpC:AV→List AV
 | .slp c _=>c
 |_=>[]
def ppC:List AV:=slpC ((ptpC dB).headD .nil)
def ppR:List AV:=(ptpC dB).drop 5
def HN:AH:=jK.2.2.2
def HZ:AH:=[some (.cells [N64 1048576,N64 400,N64 1048576] (33+1)),some (.cells [.int 9223372036854775807 0,.int 9223372036854775807 0] (27+1)),some (.cells [N64 1048576,N64 400,N64 1048576] (33+1)),some (.cells ZT (69+1)),some (.cells [.int 9223372036854775807 0,.int 9223372036854775807 0] (27+1))]
def HR:AH:=mY.2.2.2
def blkL:Option Blk→List AV
 |some (.cells cs _)=>cs
 |_=>[]
def iC (i:Nat):AV:=(blkL (ae HR 3)).getD i .nil
end
section
variable {mx:Int} {h h' h1:AH} {m:Nat} {S:Nat→Prop} {Q:Option Rs→Prop} {κn:Kt} {κx:Ex→Kt}
theorem ar7:dB= .ptp [.slp ppC 24,N64 5,N64 0,N64 0,.nils,ppR.headD .nil] 0:=by kernel_rfl
theorem agH (f:Nat):aG (fun r h'=>r= .pto 6 0∧h'=HN) ((rl (CL mx) (f+1)).run 6 [] []):=⟨_,_,by kernel_rfl,rfl,rfl⟩
theorem aiU (f:Nat):(rl (CL mx) (f+4)).run 45 [.pto 3 0] (HN++HZ)=some (.agg [N64 0,N64 0],HR):=by kernel_rfl
theorem ash:It HR 3 dB fA:=⟨iC 0,iC 1,iC 2,iC 3,iC 5,iC 6,iC 9,iC 10,iC 11,iC 15,1,0,0,0,0,0,138+1,by kernel_rfl⟩
theorem cP (i:Nat) (q:PS) (wv:AV) (hi:i<24) (e:(ppC.drop (i*265)).take 265=stC q wv (List.replicate 256 (.int 255 0))) (l:(stC q wv (List.replicate 256 (.int 255 0))).length=265) (p:aR (stC q wv (List.replicate 256 (.int 255 0)))=true) (hw:RdR h (fun b=>b<m) 2 wv (q.ways.map ie)) (hk:q.kind≠14):ox m h (.slp ppC 24) i q:=by
 refine ⟨.ptp ppC (i*265),wv,List.replicate 256 (.int 255 0),fun k h' κ=>?_,fun h' _ κ=>?_,l,p,hw,fun c=>absurd c hk⟩
 ·rw [yW,decide_eq_true hi];rfl
 ·have hl:ppC.length=6360:=by kernel_rfl
  rw [yZ,e,decide_eq_true (by omega)];rfl
theorem am7: ∀(i:Nat) (q:PS),PP[i]? =some q→ox m h (.slp ppC 24) i q
 |0,q,e=>by cases e;exact cP 0 _ .nils (by decide) (by kernel_rfl) (by kernel_rfl) (by kernel_rfl) (.inl OwR.nil) (by decide)
 |1,q,e=>by cases e;exact cP 1 _ .nils (by decide) (by kernel_rfl) (by kernel_rfl) (by kernel_rfl) (.inl OwR.nil) (by decide)
 |2,q,e=>by cases e;exact cP 2 _ .nils (by decide) (by kernel_rfl) (by kernel_rfl) (by kernel_rfl) (.inl OwR.nil) (by decide)
 |3,q,e=>by cases e;exact cP 3 _ .nils (by decide) (by kernel_rfl) (by kernel_rfl) (by kernel_rfl) (.inl OwR.nil) (by decide)
 |4,q,e=>by cases e;exact cP 4 _ .nils (by decide) (by kernel_rfl) (by kernel_rfl) (by kernel_rfl) (.inl OwR.nil) (by decide)
 |5,q,e=>by cases e;exact cP 5 _ .nils (by decide) (by kernel_rfl) (by kernel_rfl) (by kernel_rfl) (.inl OwR.nil) (by decide)
 |6,q,e=>by cases e;exact cP 6 _ .nils (by decide) (by kernel_rfl) (by kernel_rfl) (by kernel_rfl) (.inl OwR.nil) (by decide)
 |7,q,e=>by cases e;exact cP 7 _ .nils (by decide) (by kernel_rfl) (by kernel_rfl) (by kernel_rfl) (.inl OwR.nil) (by decide)
 |8,q,e=>by cases e;exact cP 8 _ .nils (by decide) (by kernel_rfl) (by kernel_rfl) (by kernel_rfl) (.inl OwR.nil) (by decide)
 |9,q,e=>by cases e;exact cP 9 _ (.slp [U64 0,N64 10,U64 1,N64 12,U64 2,N64 14,U64 5,N64 19] 4) (by decide) (by kernel_rfl) (by kernel_rfl) (by kernel_rfl) (.inr ⟨by decide,by kernel_rfl⟩) (by decide)
 |10,q,e=>by cases e;exact cP 10 _ .nils (by decide) (by kernel_rfl) (by kernel_rfl) (by kernel_rfl) (.inl OwR.nil) (by decide)
 |11,q,e=>by cases e;exact cP 11 _ .nils (by decide) (by kernel_rfl) (by kernel_rfl) (by kernel_rfl) (.inl OwR.nil) (by decide)
 |12,q,e=>by cases e;exact cP 12 _ .nils (by decide) (by kernel_rfl) (by kernel_rfl) (by kernel_rfl) (.inl OwR.nil) (by decide)
 |13,q,e=>by cases e;exact cP 13 _ .nils (by decide) (by kernel_rfl) (by kernel_rfl) (by kernel_rfl) (.inl OwR.nil) (by decide)
 |14,q,e=>by cases e;exact cP 14 _ .nils (by decide) (by kernel_rfl) (by kernel_rfl) (by kernel_rfl) (.inl OwR.nil) (by decide)
 |15,q,e=>by cases e;exact cP 15 _ .nils (by decide) (by kernel_rfl) (by kernel_rfl) (by kernel_rfl) (.inl OwR.nil) (by decide)
 |16,q,e=>by cases e;exact cP 16 _ .nils (by decide) (by kernel_rfl) (by kernel_rfl) (by kernel_rfl) (.inl OwR.nil) (by decide)
 |17,q,e=>by cases e;exact cP 17 _ .nils (by decide) (by kernel_rfl) (by kernel_rfl) (by kernel_rfl) (.inl OwR.nil) (by decide)
 |18,q,e=>by cases e;exact cP 18 _ .nils (by decide) (by kernel_rfl) (by kernel_rfl) (by kernel_rfl) (.inl OwR.nil) (by decide)
 |19,q,e=>by cases e;exact cP 19 _ .nils (by decide) (by kernel_rfl) (by kernel_rfl) (by kernel_rfl) (.inl OwR.nil) (by decide)
 |20,q,e=>by cases e;exact cP 20 _ .nils (by decide) (by kernel_rfl) (by kernel_rfl) (by kernel_rfl) (.inl OwR.nil) (by decide)
 |21,q,e=>by cases e;exact cP 21 _ .nils (by decide) (by kernel_rfl) (by kernel_rfl) (by kernel_rfl) (.inl OwR.nil) (by decide)
 |22,q,e=>by cases e;exact cP 22 _ .nils (by decide) (by kernel_rfl) (by kernel_rfl) (by kernel_rfl) (.inl OwR.nil) (by decide)
 |23,q,e=>by cases e;exact cP 23 _ .nils (by decide) (by kernel_rfl) (by kernel_rfl) (by kernel_rfl) (.inl OwR.nil) (by decide)
 |i+24,q,e=>by simp [PP] at e
end
end Go.Proofs.YteapfopaiocpeaaGreatDoor
