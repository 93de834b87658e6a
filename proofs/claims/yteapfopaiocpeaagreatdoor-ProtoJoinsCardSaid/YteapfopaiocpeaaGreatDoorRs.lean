/- The records that bytes are, by the law's own function: its run. The function's code is printed by a program. -/
import Derived.Test.YteapfopaiocpeaaGreatDoorRr
namespace Go.Proofs.YteapfopaiocpeaaGreatDoor
set_option linter.unusedSimpArgs false
set_option linter.unusedVariables false
set_option linter.unnecessarySimpa false
set_option linter.defProp false
noncomputable section
section
set_option maxRecDepth 100000
variable (mx:Int) (run:Run) (lp:Lp) (κn:Kt) (κx:Ex→Kt) (h:AH) (v0 v2 v3 v4 v5 v6 v7 v8 v9 v10 v11 v12 v13 v14 v15 v16 v19 v35 v47 v48 v57 v63 v68 v72 v76 v92 v110:AV)
end
end
section
variable {mx:Int} {h:AH} {Q:Option Rs→Prop} {κn:Kt} {κx:Ex→Kt}
end
end Go.Proofs.YteapfopaiocpeaaGreatDoor
