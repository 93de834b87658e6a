/- The context of the laws of package proto's reading: the head is told ahead, and two calls of closed arguments; all others run where they are called. -/
import Derived.Test.YteapfopaiocpeaaGreatDoorMF
import Derived.Test.YteapfopaiocpeaaGreatDoorMe
import Derived.Test.YteapfopaiocpeaaGreatDoorME
import Derived.Test.YteapfopaiocpeaaGreatDoorOw
namespace Go.Proofs.YteapfopaiocpeaaGreatDoor
noncomputable section
def Cx.runs (C:Cx) (g:Nat→Bool):Cx:={C with own:=g,tr:=fun _=>false,fz:=fun _=>false}
theorem nO (C:Cx) (g:Nat→Bool):(C.runs g).gl=C.gl:=rfl
theorem aX.runs {P:Program} {C:Cx} (X:aX P C) (g:Nat→Bool):aX P (C.runs g):=
 ⟨X.ty,X.one,X.fl,X.fn,fun f g' e args h v h' k ok w ρ us I hv=>by
  obtain ⟨u,w',ok',ρ',h1,h2,h3,h4⟩:=X.ext f g' e args h v h' k ok w ρ us (I.aF (nO C g).symm) hv
  exact ⟨u,w',ok',ρ',h1,h2,h3.aF (nO C g),h4⟩,
  fun f args v e=>(X.rn f args v e).aF (nO C g),
  fun f g' e run H args h r h' k=>(X.orc f g' e run (fun f args h r h' k=>(H f args h r h' k).aF (nO C g).symm) args h r h' k).aF (nO C g),X.mixed,X.sq⟩
def heT:BT (List Ent):=.nd 107 (.lf 6 [jK]) (.lf 107 [mY])
def CL (mx:Int):Cx:=(((C0 mx).told (.lf 5 [([],.bool true)])).heard heT).runs fun f=>not (or (Nat.beq f 5) (Nat.beq f 8))
end
theorem asj {mx:Int}:aX Tryz.prog (CL mx):=((aX.told aeI (show bP Tryz.prog (C0 mx) (.lf 5 [([],.bool true)]) from fun p hp=>by
 obtain rfl:p=([],.bool true):=by simpa using hp
 exact apG aeI)).heard (t:=heT) (kZ.aF (C:=C0 mx) ⟨fun p hp=>by
  obtain rfl:p=jK:=by simpa using hp
  exact aeQ aeI,fun p hp=>by
  obtain rfl:p=mY:=by simpa using hp
  exact arP aeI⟩ rfl)).runs _
end Go.Proofs.YteapfopaiocpeaaGreatDoor
