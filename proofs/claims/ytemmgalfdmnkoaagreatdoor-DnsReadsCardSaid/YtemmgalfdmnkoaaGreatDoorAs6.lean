/- Calls of this program that bear no variable, reckoned by the evaluator, and told ahead: printed by a program. -/
import Derived.Test.YtemmgalfdmnkoaaGreatDoorAs5
namespace Go.Proofs.YtemmgalfdmnkoaaGreatDoor
noncomputable section
set_option linter.unusedVariables false
set_option maxRecDepth 1000000
variable {mx:Int}
def fL:AV:=.ptp [.ptp aud 0,gN,.slp mJ 4,.ptp at7 0] 0
def awU:BT (List (List AV×AV)):=(.nd 124 (.nd 46 (.nd 19 (.lf 15 [jG]) (.nd 33 (.lf 19 [jq]) (.lf 33 [jS]))) (.nd 91 (.nd 80 (.lf 46 [oz]) (.lf 80 [km])) (.nd 117 (.lf 91 [oM]) (.lf 117 [nc])))) (.nd 191 (.nd 134 .nl (.nd 183 (.lf 134 [s7]) (.lf 183 [pR]))) (.nd 242 (.nd 205 (.lf 191 [kM]) (.lf 205 [mS])) (.nd 283 (.lf 242 [my]) (.lf 283 [mT])))))
theorem akr:cu Tryz.prog (C0 mx) awU:=⟨⟨⟨(kq mj),⟨(kq kJ),(kq mq)⟩⟩,⟨⟨(kq qM),(kq nD)⟩,⟨(kq sR),(kq pJ)⟩⟩⟩,⟨⟨trivial,⟨(kq xG),(kq vG)⟩⟩,⟨⟨(kq mC),(kq qC)⟩,⟨(kq oK),(kq qq)⟩⟩⟩⟩
def vD:List AV×AV:=([dN],.tup [fL,.agg [.i 0,.i 0]])
theorem aai:aZ Tryz.prog (C0 mx) 14 vD.1 vD.2:=aX bN akr ky (by kernel_rfl) (by kernel_rfl)
def axp:BT (List (List AV×AV)):=(.nd 117 (.nd 33 (.nd 15 (.lf 14 [vD]) (.nd 19 (.lf 15 [jG]) (.lf 19 [jq]))) (.nd 80 (.nd 46 (.lf 33 [jS]) (.lf 46 [oz])) (.nd 91 (.lf 80 [km]) (.lf 91 [oM])))) (.nd 191 (.nd 134 (.nd 124 (.lf 117 [nc]) .nl) (.nd 183 (.lf 134 [s7]) (.lf 183 [pR]))) (.nd 242 (.nd 205 (.lf 191 [kM]) (.lf 205 [mS])) (.nd 283 (.lf 242 [my]) (.lf 283 [mT])))))
theorem ajS:cu Tryz.prog (C0 mx) axp:=⟨⟨⟨(kq aai),⟨(kq mj),(kq kJ)⟩⟩,⟨⟨(kq mq),(kq qM)⟩,⟨(kq nD),(kq sR)⟩⟩⟩,⟨⟨⟨(kq pJ),trivial⟩,⟨(kq xG),(kq vG)⟩⟩,⟨⟨(kq mC),(kq qC)⟩,⟨(kq oK),(kq qq)⟩⟩⟩⟩
def wT:List AV×AV:=([dN],.agg [.i 0,.i 0])
theorem agc:aZ Tryz.prog (C0 mx) 189 wT.1 wT.2:=aX bN ajS ky (by kernel_rfl) (by kernel_rfl)
def axx:BT (List (List AV×AV)):=(.nd 124 (.nd 46 (.nd 19 (.nd 15 (.lf 14 [vD]) (.lf 15 [jG])) (.nd 33 (.lf 19 [jq]) (.lf 33 [jS]))) (.nd 91 (.nd 80 (.lf 46 [oz]) (.lf 80 [km])) (.nd 117 (.lf 91 [oM]) (.lf 117 [nc])))) (.nd 191 (.nd 183 (.nd 134 .nl (.lf 134 [s7])) (.nd 189 (.lf 183 [pR]) (.lf 189 [wT]))) (.nd 242 (.nd 205 (.lf 191 [kM]) (.lf 205 [mS])) (.nd 283 (.lf 242 [my]) (.lf 283 [mT])))))
theorem alW:cu Tryz.prog (C0 mx) axx:=⟨⟨⟨⟨(kq aai),(kq mj)⟩,⟨(kq kJ),(kq mq)⟩⟩,⟨⟨(kq qM),(kq nD)⟩,⟨(kq sR),(kq pJ)⟩⟩⟩,⟨⟨⟨trivial,(kq xG)⟩,⟨(kq vG),(kq agc)⟩⟩,⟨⟨(kq mC),(kq qC)⟩,⟨(kq oK),(kq qq)⟩⟩⟩⟩
def abA:List AV×AV:=([dN],.tup [.agg [.u 255,.i 64,.i 7],.agg [.i 0,.i 0]])
theorem api:aZ Tryz.prog (C0 mx) 135 abA.1 abA.2:=aX bN alW ky (by kernel_rfl) (by kernel_rfl)
def agz:Option Blk:=some (.cells [.str [],gN,.slp mJ 4,.bool true,.w 0,.v 0,.w 0,.nil,.nil,.u 0,.i 0,.i 0,.i 0,.i 0,.i 1,.v 0,.u 0,.u 0,.u 0,.u 0,.u 0] 166)
def jO:Option Blk:=some (.cells [.str [97,98],.str [99]] 0)
def jN:Option Blk:=some (.cells [.slo 7 0 2 2 1 true,.i (-1),.int 65535 1,.int 65535 1] 0)
def cC:Option Blk:=some (.cells [.int 65535 7,.int 65535 33152,.slo 8 0 1 1 4 true,.slo 11 0 1 1 6 true,.aa,.aa] 30)
def cP:Option Blk:=some (.cells [.b 1,.b 2,.b 3,.b 4] 0)
def atA:List AV:=[.aa,.i 12,.int 65535 1,.int 65535 1,.w 9,.slo 10 0 4 4 1 true]
def jE:Option Blk:=some (.cells atA 0)
def dJ:Option Blk:=some (.cells [.slo 7 0 2 2 1 true,.i (-1),.int 65535 1,.int 65535 1] 50)
def jU:Option Blk:=some (.cells [.slo 7 0 2 2 1 true,.i (-1)] 48)
def dL:Option Blk:=some (.cells atA 53)
def bU:Option Blk:=some (.cells [.u 0,.bool false,.aa,.slo 59 0 10 10 4 false] 68)
def gQ:Option Blk:=some (.cells [.u 7,.bool false,.aa,.aa,.u 33152,.bool false,.aa,.aa,.u 0,.bool true,.aa,.aa,.u 0,.bool true,.aa,.aa,.u 0,.bool true,.aa,.aa,.u 0,.bool true,.aa,.aa] 0)
def gP:Option Blk:=some (.cells [.u 0,.bool false,.aa,.slo 22 0 6 6 4 false] 68)
def bT:Option Blk:=some (.cells [] 0)
def bh:Option Blk:=some (.cells [.u 0,.bool false,.aa,.aa] 68)
def eD:Option Blk:=some (.cells [.b 97,.b 98] 0)
def gX:Option Blk:=some (.cells [.u 0,.bool true,.aa,.aa,.u 0,.bool false,.slo 26 0 2 2 1 false,.aa] 0)
def gU:Option Blk:=some (.cells [.u 0,.bool false,.aa,.slo 27 0 2 2 4 false] 0)
def eH:Option Blk:=some (.cells [.b 99] 0)
def ie:Option Blk:=some (.cells [.u 0,.bool true,.aa,.aa,.u 0,.bool false,.slo 29 0 1 1 1 false,.aa] 0)
def gV:Option Blk:=some (.cells [.u 0,.bool false,.aa,.slo 30 0 2 2 4 false] 0)
def bY:Option Blk:=some (.cells [.u 0,.bool false,.aa,.aa] 0)
def ig:Option Blk:=some (.cells [.u 0,.bool false,.aa,.slo 28 0 1 1 4 true,.u 0,.bool false,.aa,.slo 31 0 1 1 4 true,.u 1,.bool false,.aa,.slo 32 0 1 1 4 true] 68)
def iy:Option Blk:=some (.cells [.u 0,.bool false,.aa,.slo 33 0 3 3 4 false,.u 1,.bool false,.aa,.aa,.u 1,.bool false,.aa,.aa] 0)
def gZ:Option Blk:=some (.cells [.u 0,.bool false,.aa,.slo 34 0 3 3 4 false] 68)
def gS:Option Blk:=some (.cells [.u 0,.bool false,.aa,.slo 35 0 1 1 4 false] 0)
def gR:Option Blk:=some (.cells [.aa,.i 12] 48)
def gO:Option Blk:=some (.cells [.u 0,.bool false,.aa,.slo 44 0 1 1 4 false] 68)
def iH:Option Blk:=some (.cells [.u 49164,.bool false,.aa,.aa] 0)
def iI:Option Blk:=some (.cells [.u 2,.bool false,.aa,.slo 42 0 1 1 4 true] 0)
def iB:Option Blk:=some (.cells [.u 2,.bool false,.aa,.slo 42 0 1 1 4 true] 68)
def hO:Option Blk:=some (.cells [.u 0,.bool false,.slo 47 0 4 4 1 false,.aa] 68)
def cX:Option Blk:=some (.cells [.u 0,.bool false,.aa,.slo 44 0 1 1 4 false,.u 1,.bool false,.aa,.aa,.u 1,.bool false,.aa,.aa,.u 9,.bool false,.aa,.aa,.u 0,.bool true,.aa,.aa,.u 0,.bool false,.slo 47 0 4 4 1 false,.aa] 0)
def cV:Option Blk:=some (.cells [.u 0,.bool false,.aa,.slo 51 0 6 6 4 false] 68)
def iG:Option Blk:=some (.cells [.u 0,.bool false,.aa,.slo 51 0 6 6 4 false] 0)
def iz:Option Blk:=some (.cells [.u 0,.bool false,.aa,.slo 53 0 1 1 4 false] 0)
def iA:Option Blk:=some (.cells [.u 7,.bool false,.aa,.aa,.u 33152,.bool false,.aa,.aa,.u 0,.bool true,.aa,.aa,.u 0,.bool true,.aa,.aa,.u 0,.bool true,.aa,.aa,.u 0,.bool true,.aa,.aa,.u 0,.bool false,.aa,.slo 35 0 1 1 4 false,.u 0,.bool false,.aa,.slo 53 0 1 1 4 false,.u 0,.bool false,.aa,.aa,.u 0,.bool false,.aa,.aa] 0)
def fD:Option Blk:=some (.cells [.pto 3 0] 86)
def kS:Option Blk:=some (.cells [.str [],gN,.slp mJ 4,.bool true,.w 1,.v 0,.w 0,eV,fL,.u 255,.i 64,.i 7,.i 0,.i 0,.i 1,.v 1,.u 0,.u 0,.u 0,.u 0,.u 0] 166)
def axL:BT (List (List AV×AV)):=(.nd 124 (.nd 46 (.nd 19 (.nd 15 (.lf 14 [vD]) (.lf 15 [jG])) (.nd 33 (.lf 19 [jq]) (.lf 33 [jS]))) (.nd 91 (.nd 80 (.lf 46 [oz]) (.lf 80 [km])) (.nd 117 (.lf 91 [oM]) (.lf 117 [nc])))) (.nd 189 (.nd 135 (.nd 134 .nl (.lf 134 [s7])) (.nd 183 (.lf 135 [abA]) (.lf 183 [pR]))) (.nd 205 (.nd 191 (.lf 189 [wT]) (.lf 191 [kM])) (.nd 242 (.lf 205 [mS]) (.nd 283 (.lf 242 [my]) (.lf 283 [mT]))))))
theorem nI:cu Tryz.prog (C0 mx) axL:=⟨⟨⟨⟨(kq aai),(kq mj)⟩,⟨(kq kJ),(kq mq)⟩⟩,⟨⟨(kq qM),(kq nD)⟩,⟨(kq sR),(kq pJ)⟩⟩⟩,⟨⟨⟨trivial,(kq xG)⟩,⟨(kq api),(kq vG)⟩⟩,⟨⟨(kq agc),(kq mC)⟩,⟨(kq qC),⟨(kq oK),(kq qq)⟩⟩⟩⟩⟩
def yl:Ent:=([.pto 3 4,.fn 86 [] [.pto 63 0]],[fW,fV,fp,agz,fJ,fO,fZ,jO,jN,cC,cP,jE,cC,aK,dJ,jU,dL,cC,bU,gQ,gP,bT,none,bU,bh,dJ,eD,gX,gU,eH,ie,gV,bY,ig,iy,gZ,gS,none,dL,gR,gO,bh,iH,iI,iB,hO,bT,cP,cX,cV,bT,cX,iG,cV,iz,none,bY,none,bY,iA,bU,bh,aK,fD,aK],.tup [],[fW,fV,fp,kS,fJ,fO,fZ,jO,jN,cC,cP,jE,cC,aK,dJ,jU,dL,cC,bU,gQ,gP,bT,none,bU,bh,dJ,eD,gX,gU,eH,ie,gV,bY,ig,iy,gZ,gS,none,dL,gR,gO,bh,iH,iI,iB,hO,bT,cP,cX,cV,bT,cX,iG,cV,iz,none,bY,none,bY,iA,bU,bh,aK,fD,aK,aK,aK])
theorem atv:ga Tryz.prog (C0 mx) 132 yl.1 yl.2.1 yl.2.2.1 yl.2.2.2:=lM bN nI ky (by kernel_rfl)
end
end Go.Proofs.YtemmgalfdmnkoaaGreatDoor
