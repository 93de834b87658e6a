/- Calls of this program that bear no variable, reckoned by the evaluator, and told ahead: printed by a program. -/
import Derived.Test.YtemmgalfdmnkoaaGreatDoorAs9
namespace Go.Proofs.YtemmgalfdmnkoaaGreatDoor
noncomputable section
set_option linter.unusedVariables false
set_option maxRecDepth 1000000
variable {mx:Int}
def aeF:List AV×AV:=([dN,dN],.bool true)
theorem at3:aZ Tryz.prog (C0 mx) 22 aeF.1 aeF.2:=aX bN nI vw (by kernel_rfl) (by kernel_rfl)
def awG:BT (List (List AV×AV)):=(.nd 124 (.nd 33 (.nd 19 (.nd 15 (.lf 14 [vD]) (.lf 15 [jG])) (.nd 22 (.lf 19 [jq]) (.lf 22 [aeF]))) (.nd 80 (.nd 46 (.lf 33 [jS]) (.lf 46 [oz])) (.nd 91 (.lf 80 [km]) (.nd 117 (.lf 91 [oM]) (.lf 117 [nc]))))) (.nd 189 (.nd 135 (.nd 134 .nl (.lf 134 [s7])) (.nd 183 (.lf 135 [abA]) (.lf 183 [pR]))) (.nd 205 (.nd 191 (.lf 189 [wT]) (.lf 191 [kM])) (.nd 242 (.lf 205 [mS]) (.nd 283 (.lf 242 [my]) (.lf 283 [mT]))))))
theorem an7:cu Tryz.prog (C0 mx) awG:=⟨⟨⟨⟨(kq aai),(kq mj)⟩,⟨(kq kJ),(kq at3)⟩⟩,⟨⟨(kq mq),(kq qM)⟩,⟨(kq nD),⟨(kq sR),(kq pJ)⟩⟩⟩⟩,⟨⟨⟨trivial,(kq xG)⟩,⟨(kq api),(kq vG)⟩⟩,⟨⟨(kq agc),(kq mC)⟩,⟨(kq qC),⟨(kq oK),(kq qq)⟩⟩⟩⟩⟩
def axj:BT (List Ent):=(.nd 89 (.nd 16 (.lf 6 [mg]) (.nd 34 (.lf 16 [xm]) (.lf 34 [uK]))) (.nd 132 (.lf 89 [wQ]) (.nd 188 (.lf 132 [yl]) (.lf 188 [sW]))))
theorem aou:gy Tryz.prog (C0 mx) axj:=⟨⟨(kq x9),⟨(kq atM),(kq am4)⟩⟩,⟨(kq atX),⟨(kq atv),(kq afK)⟩⟩⟩
def anx:List AV×AV:=([],.bool true)
theorem atk:aZ Tryz.prog (C0 mx) 5 anx.1 anx.2:=aX bN an7 aou (by kernel_rfl) (by kernel_rfl)
def ax8:BT (List (List AV×AV)):=(.nd 117 (.nd 22 (.nd 15 (.nd 14 (.lf 5 [anx]) (.lf 14 [vD])) (.nd 19 (.lf 15 [jG]) (.lf 19 [jq]))) (.nd 46 (.nd 33 (.lf 22 [aeF]) (.lf 33 [jS])) (.nd 80 (.lf 46 [oz]) (.nd 91 (.lf 80 [km]) (.lf 91 [oM]))))) (.nd 189 (.nd 134 (.nd 124 (.lf 117 [nc]) .nl) (.nd 135 (.lf 134 [s7]) (.nd 183 (.lf 135 [abA]) (.lf 183 [pR])))) (.nd 205 (.nd 191 (.lf 189 [wT]) (.lf 191 [kM])) (.nd 242 (.lf 205 [mS]) (.nd 283 (.lf 242 [my]) (.lf 283 [mT]))))))
theorem aod:cu Tryz.prog (C0 mx) ax8:=⟨⟨⟨⟨(kq atk),(kq aai)⟩,⟨(kq mj),(kq kJ)⟩⟩,⟨⟨(kq at3),(kq mq)⟩,⟨(kq qM),⟨(kq nD),(kq sR)⟩⟩⟩⟩,⟨⟨⟨(kq pJ),trivial⟩,⟨(kq xG),⟨(kq api),(kq vG)⟩⟩⟩,⟨⟨(kq agc),(kq mC)⟩,⟨(kq qC),⟨(kq oK),(kq qq)⟩⟩⟩⟩⟩
def axF:BT (List Ent):=(.nd 34 (.nd 16 (.lf 6 [mg]) (.lf 16 [xm])) (.nd 89 (.lf 34 [uK]) (.nd 188 (.lf 89 [wQ]) (.lf 188 [sW]))))
theorem amj:gy Tryz.prog (C0 mx) axF:=⟨⟨(kq x9),(kq atM)⟩,⟨(kq am4),⟨(kq atX),(kq afK)⟩⟩⟩
def uH:Ent:=([.pto 3 4,.fn 86 [] [.pto 13 0]],[fW,fV,fp,agz,fJ,fO,fZ,fg,qA,aK,fg,bh,aK,fD,aK],.tup [],[fW,fV,fp,kS,fJ,fO,fZ,fg,qA,aK,fg,bh,aK,fD,aK,aK,aK])
theorem awH:ga Tryz.prog (C0 mx) 132 uH.1 uH.2.1 uH.2.2.1 uH.2.2.2:=lM bN aod amj (by kernel_rfl)
end
end Go.Proofs.YtemmgalfdmnkoaaGreatDoor
