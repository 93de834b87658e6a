/- The document's number of seven bits a byte: its run. The functions' code is printed by a program. -/
import Derived.Test.YteapfopaiocpeaaGreatDoorRq
namespace Go.Proofs.YteapfopaiocpeaaGreatDoor
set_option linter.unusedSimpArgs false
set_option linter.unusedVariables false
set_option linter.unnecessarySimpa false
set_option linter.defProp false
noncomputable section
section
set_option maxRecDepth 100000
variable (mx:Int) (run:Run) (lp:Lp) (κn:Kt) (κx:Ex→Kt) (h:AH) (v0 v1 v4 v5 v6 v7 v8 v9 v24 v43 v47 v60 v63:AV)
end
section
set_option maxRecDepth 100000
variable (mx:Int) (run:Run) (lp:Lp) (κn:Kt) (κx:Ex→Kt) (h:AH) (v0 v2 v3 v4 v5 v6 v7:AV)
end
end
def lv:List Nat→Nat
 |[]=>0
 |c::r=>c%128+128*lv r
section
variable {mx:Int} {h:AH} {Q:Option Rs→Prop} {κn:Kt} {κx:Ex→Kt} {d:AV} {bs:List Nat}
end
end Go.Proofs.YteapfopaiocpeaaGreatDoor
