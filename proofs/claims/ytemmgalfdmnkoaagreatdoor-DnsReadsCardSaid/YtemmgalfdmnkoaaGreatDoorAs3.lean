/- Calls of this program that bear no variable, reckoned by the evaluator, and told ahead: printed by a program. -/
import Derived.Test.YtemmgalfdmnkoaaGreatDoorAs2
namespace Go.Proofs.YtemmgalfdmnkoaaGreatDoor
noncomputable section
set_option linter.unusedVariables false
set_option maxRecDepth 1000000
variable {mx:Int}
def jG:List AV×AV:=([],dN)
theorem mj:aZ Tryz.prog (C0 mx) 15 jG.1 jG.2:=aX bN zX bA (by kernel_rfl) (by kernel_rfl)
def jS:List AV×AV:=([dN],dN)
theorem mq:aZ Tryz.prog (C0 mx) 33 jS.1 jS.2:=aX bN zX bA (by kernel_rfl) (by kernel_rfl)
def gN:AV:=.slp asq2 32
def fW:Option Blk:=some (.map [.str [100,110,115]] [.pto 3 0])
def fV:Option Blk:=some (.cells [.mpo 0,.slo 5 0 1 1 1 false] 156)
def fp:Option Blk:=some (.cells [gN,.slp mJ 4] 63)
def ari:Option Blk:=some (.cells [.str [],gN,.slp mJ 4,.bool true,.w 0,.v 0,.w 0,.nil,.nil,.u 0,.i 0,.i 0,.i 0,.i 0,.i 0,.v 0,.u 0,.u 0,.u 0,.u 0,.u 0] 166)
def fJ:Option Blk:=some (.cells [.str [100,110,115]] 0)
def fO:Option Blk:=some (.cells [.str [100,110,115]] 10)
def fZ:Option Blk:=some (.cells [.pto 1 0] 84)
def ax5:BT (List (List AV×AV)):=(.nd 46 (.nd 19 (.lf 15 [jG]) (.nd 33 (.lf 19 [jq]) (.lf 33 [jS]))) (.nd 117 (.lf 46 [oz]) (.nd 124 (.lf 117 [nc]) .nl)))
theorem ve:cu Tryz.prog (C0 mx) ax5:=⟨⟨(kq mj),⟨(kq kJ),(kq mq)⟩⟩,⟨(kq qM),⟨(kq pJ),trivial⟩⟩⟩
def mg:Ent:=([],[],.pto 6 0,[fW,fV,fp,ari,fJ,fO,fZ])
theorem x9:ga Tryz.prog (C0 mx) 6 mg.1 mg.2.1 mg.2.2.1 mg.2.2.2:=lM bN ve bA (by kernel_rfl)
def km:List AV×AV:=([dN],.i 0)
theorem nD:aZ Tryz.prog (C0 mx) 80 km.1 km.2:=aX bN ve bA (by kernel_rfl) (by kernel_rfl)
def kM:List AV×AV:=([dN],.i 7)
theorem mC:aZ Tryz.prog (C0 mx) 191 kM.1 kM.2:=aX bN ve bA (by kernel_rfl) (by kernel_rfl)
def aw0:BT (List (List AV×AV)):=(.nd 80 (.nd 33 (.nd 19 (.lf 15 [jG]) (.lf 19 [jq])) (.nd 46 (.lf 33 [jS]) (.lf 46 [oz]))) (.nd 124 (.nd 117 (.lf 80 [km]) (.lf 117 [nc])) (.nd 191 .nl (.lf 191 [kM]))))
theorem amv:cu Tryz.prog (C0 mx) aw0:=⟨⟨⟨(kq mj),(kq kJ)⟩,⟨(kq mq),(kq qM)⟩⟩,⟨⟨(kq nD),(kq pJ)⟩,⟨trivial,(kq mC)⟩⟩⟩
def axB:BT (List Ent):=(.lf 6 [mg])
theorem kU:gy Tryz.prog (C0 mx) axB:=(kq x9)
def my:List AV×AV:=([dN],.agg [.i 0,.i 0])
theorem oK:aZ Tryz.prog (C0 mx) 242 my.1 my.2:=aX bN amv kU (by kernel_rfl) (by kernel_rfl)
def at9:List AV:=[.i 1,.i 15,.i 24,.i 26,.i 28,.i 30]
def asq6:List AV:=[.agg [.i 1,.i 2,.i 0],.agg [.i 15,.i 16,.i 4],.agg [.i 24,.i 31,.i 2],.agg [.i 26,.i 31,.i 3],.agg [.i 28,.i 31,.i 4],.agg [.i 30,.i 31,.i 5]]
def aqP:AV:=.ptp [gN,.slp mJ 4,.mpp at9 asq6] 0
def axE:BT (List (List AV×AV)):=(.nd 80 (.nd 33 (.nd 19 (.lf 15 [jG]) (.lf 19 [jq])) (.nd 46 (.lf 33 [jS]) (.lf 46 [oz]))) (.nd 124 (.nd 117 (.lf 80 [km]) (.lf 117 [nc])) (.nd 191 .nl (.nd 242 (.lf 191 [kM]) (.lf 242 [my])))))
theorem abz:cu Tryz.prog (C0 mx) axE:=⟨⟨⟨(kq mj),(kq kJ)⟩,⟨(kq mq),(kq qM)⟩⟩,⟨⟨(kq nD),(kq pJ)⟩,⟨trivial,⟨(kq mC),(kq oK)⟩⟩⟩⟩
def mS:List AV×AV:=([dN],.tup [aqP,.agg [.i 0,.i 0]])
theorem qC:aZ Tryz.prog (C0 mx) 205 mS.1 mS.2:=aX bN abz kU (by kernel_rfl) (by kernel_rfl)
end
end Go.Proofs.YtemmgalfdmnkoaaGreatDoor
