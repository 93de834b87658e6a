/- Calls of this program that bear no variable, reckoned by the evaluator, and told ahead: printed by a program. -/
import Derived.Test.YtemmgalfdmnkoaaGreatDoorAs4
namespace Go.Proofs.YtemmgalfdmnkoaaGreatDoor
noncomputable section
set_option linter.unusedVariables false
set_option maxRecDepth 1000000
variable {mx:Int}
def eV:AV:=.ptp [.slp asq1 60,.i 15,.i 0,.i 0,.aa,.mpp asq8 asq9] 0
def axC:BT (List (List AV×AV)):=(.nd 117 (.nd 46 (.nd 19 (.lf 15 [jG]) (.nd 33 (.lf 19 [jq]) (.lf 33 [jS]))) (.nd 80 (.lf 46 [oz]) (.nd 91 (.lf 80 [km]) (.lf 91 [oM])))) (.nd 191 (.nd 124 (.lf 117 [nc]) (.nd 183 .nl (.lf 183 [pR]))) (.nd 242 (.nd 205 (.lf 191 [kM]) (.lf 205 [mS])) (.nd 283 (.lf 242 [my]) (.lf 283 [mT])))))
theorem ajI:cu Tryz.prog (C0 mx) axC:=⟨⟨⟨(kq mj),⟨(kq kJ),(kq mq)⟩⟩,⟨(kq qM),⟨(kq nD),(kq sR)⟩⟩⟩,⟨⟨(kq pJ),⟨trivial,(kq vG)⟩⟩,⟨⟨(kq mC),(kq qC)⟩,⟨(kq oK),(kq qq)⟩⟩⟩⟩
def awX:BT (List Ent):=(.nd 188 (.lf 6 [mg]) (.lf 188 [sW]))
theorem ky:gy Tryz.prog (C0 mx) awX:=⟨(kq x9),(kq afK)⟩
def s7:List AV×AV:=([dN],.tup [eV,.agg [.i 0,.i 0]])
theorem xG:aZ Tryz.prog (C0 mx) 134 s7.1 s7.2:=aX bN ajI ky (by kernel_rfl) (by kernel_rfl)
def aud:List AV:=[gN,.slp mJ 4,.mpp [] []]
def at7:List AV:=(av [.w 0,.v 0] (av (aU 257 (.w 0)) [.v 0,.u 0]))
end
end Go.Proofs.YtemmgalfdmnkoaaGreatDoor
