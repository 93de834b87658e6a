/- Calls of this program that bear no variable, reckoned by the evaluator, and told ahead: printed by a program. -/
import Derived.Test.YtemmgalfdmnkoaaGreatDoorAs8
namespace Go.Proofs.YtemmgalfdmnkoaaGreatDoor
noncomputable section
set_option linter.unusedVariables false
set_option maxRecDepth 1000000
variable {mx:Int}
def ae9:AV:=.slp asq1 60
def aeL:Option Blk:=some (.cells [.str [],gN,.slp mJ 4,.bool true,.w 1,.v 0,.w 0,eV,fL,.u 255,.i 64,.i 7,.i 0,.i 0,.i 2,.v 1,.u 0,.u 0,.u 0,.u 0,.u 0] 166)
def aeC:Option Blk:=some (.cells [.u 2,.bool false,.aa,.aa,.u 0,.bool false,.slo 60 0 2 2 1 false,.aa] 68)
def afR:Option Blk:=some (.cells [.u 0,.bool false,.aa,.slo 61 0 2 2 4 false] 68)
def agj:Option Blk:=some (.cells [.u 1,.bool false,.aa,.aa,.u 0,.bool false,.slo 63 0 1 1 1 false,.aa] 68)
def afk:Option Blk:=some (.cells [.u 0,.bool false,.aa,.slo 64 0 2 2 4 false] 68)
def afd:Option Blk:=some (.cells [.u 0,.bool false,.aa,.slo 62 0 1 1 4 false,.u 0,.bool false,.aa,.slo 65 0 1 1 4 false,.u 1,.bool false,.aa,.slo 66 0 1 1 4 false] 68)
def afp:Option Blk:=some (.cells [.u 0,.bool false,.aa,.slo 67 0 3 3 4 false,.u 1,.bool false,.aa,.aa,.u 1,.bool false,.aa,.aa] 68)
def agl:Option Blk:=some (.cells [.u 0,.bool false,.aa,.slo 68 0 3 3 4 false] 68)
def ab6:Option Blk:=some (.cells [.u 2,.bool false,.aa,.slo 70 0 1 1 4 false] 68)
def aa6:Option Blk:=some (.cells [.u 0,.bool false,.aa,.slo 71 0 1 1 4 false,.u 1,.bool false,.aa,.aa,.u 1,.bool false,.aa,.aa,.u 9,.bool false,.aa,.aa,.u 4,.bool false,.aa,.aa,.u 0,.bool false,.slo 72 0 4 4 1 false,.aa] 68)
def zZ:Option Blk:=some (.cells [.u 0,.bool false,.aa,.slo 73 0 6 6 4 false] 68)
def abQ:Option Blk:=some (.cells [.u 7,.bool false,.aa,.aa,.u 33152,.bool false,.aa,.aa,.u 1,.bool false,.aa,.aa,.u 1,.bool false,.aa,.aa,.u 0,.bool false,.aa,.aa,.u 0,.bool false,.aa,.aa,.u 0,.bool false,.aa,.slo 69 0 1 1 4 false,.u 0,.bool false,.aa,.slo 74 0 1 1 4 false,.u 0,.bool false,.aa,.aa,.u 0,.bool false,.aa,.aa] 68)
def aah:Option Blk:=some (.cells [.u 0,.bool false,.aa,.slo 75 0 10 10 4 false] 68)
def fg:Option Blk:=some (.cells [.i 1048576,.i 400,.i 1048576] 39)
def qA:Option Blk:=some (.cells [.int 65535 0,.int 65535 0,.aa,.aa,.aa,.aa] 30)
def abV:Option Blk:=some (.cells [.u 0,.bool false,.aa,.slo 120 0 10 10 4 false] 68)
def aoG:Option Blk:=some (.cells [ae9,.i 15,.i 0,.i 0] 281)
def akh:Option Blk:=some (.cells at7 117)
def apz:Option Blk:=some (.cells [.u 7,.u 33152,.u 1,.u 1,.u 0,.u 0,.u 1,.u 0,.u 49164,.u 1,.u 1,.u 1,.u 1,.u 9,.u 4] 0)
def akp:Option Blk:=some (.cells [ae9,.i 15,.i 0,.i 0,.aa,.pto 96 0,.slo 76 0 38 38 1 false,.i 1048576,.i 400,.i 1048576,.i 38,.i 32,.i 34,.i 70,.slo 97 0 15 15 1 true,.slo 98 0 0 0 2 true,.slo 103 0 1 8 4 false,.aa,.slo 101 0 0 1 1 false,.slo 102 0 0 2 1 false,.i 0,.i 0] 290)
def am2:Option Blk:=some (.cells [.u 0] 65)
def anU:Option Blk:=some (.cells [.i 15,.i 53] 4)
def ao5:Option Blk:=some (.cells [.u 0,.bool false,.aa,.slo 121 0 1 1 4 false,.u 0,.bool false,.aa,.slo 120 0 10 10 4 false,.u 0,.bool false,.aa,.aa,.u 0,.bool false,.aa,.slo 117 0 6 6 4 false,.u 0,.bool false,.slo 116 0 4 4 1 false,.aa,.u 2,.bool false,.aa,.slo 114 0 1 1 4 false,.u 49164,.bool false,.aa,.aa,.u 0,.bool false,.slo 107 0 1 1 1 false,.aa] 0)
def ap3:Option Blk:=some (.cells [.b 97,.b 98] 6)
def ap5:Option Blk:=some (.cells [.u 2,.bool false,.aa,.aa,.u 0,.bool false,.slo 104 0 2 2 1 false,.aa] 68)
def alA:Option Blk:=some (.cells [.u 0,.bool false,.aa,.slo 105 0 2 2 4 false] 68)
def anX:Option Blk:=some (.cells [.b 99] 6)
def akQ:Option Blk:=some (.cells [.u 1,.bool false,.aa,.aa,.u 0,.bool false,.slo 107 0 1 1 1 false,.aa] 68)
def aoJ:Option Blk:=some (.cells [.u 0,.bool false,.aa,.slo 108 0 2 2 4 false] 68)
def ap6:Option Blk:=some (.cells [.u 0,.bool false,.aa,.slo 106 0 1 1 4 false,.u 0,.bool false,.aa,.slo 109 0 1 1 4 false,.u 1,.bool false,.aa,.slo 110 0 1 1 4 false] 68)
def aoD:Option Blk:=some (.cells [.u 0,.bool false,.aa,.slo 111 0 3 3 4 false,.u 1,.bool false,.aa,.aa,.u 1,.bool false,.aa,.aa] 68)
def aoh:Option Blk:=some (.cells [.u 0,.bool false,.aa,.slo 112 0 3 3 4 false] 68)
def apb:Option Blk:=some (.cells [.u 2,.bool false,.aa,.slo 114 0 1 1 4 false] 68)
def aoE:Option Blk:=some (.cells [.b 1,.b 2,.b 3,.b 4] 6)
def ao7:Option Blk:=some (.cells [.u 0,.bool false,.aa,.slo 115 0 1 1 4 false,.u 1,.bool false,.aa,.aa,.u 1,.bool false,.aa,.aa,.u 9,.bool false,.aa,.aa,.u 4,.bool false,.aa,.aa,.u 0,.bool false,.slo 116 0 4 4 1 false,.aa] 68)
def akM:Option Blk:=some (.cells [.u 0,.bool false,.aa,.slo 117 0 6 6 4 false] 68)
def akP:Option Blk:=some (.cells [.u 7,.bool false,.aa,.aa,.u 33152,.bool false,.aa,.aa,.u 1,.bool false,.aa,.aa,.u 1,.bool false,.aa,.aa,.u 0,.bool false,.aa,.aa,.u 0,.bool false,.aa,.aa,.u 0,.bool false,.aa,.slo 113 0 1 1 4 false,.u 0,.bool false,.aa,.slo 118 0 1 1 4 false,.u 0,.bool false,.aa,.aa,.u 0,.bool false,.aa,.aa] 68)
def wQ:Ent:=([eV,.slo 76 0 38 38 1 false,.agg [.i 1048576,.i 400,.i 1048576]],[fW,fV,fp,aeL,fJ,fO,fZ,jO,jN,cC,cP,jE,cC,aK,dJ,jU,dL,cC,bU,gQ,gP,bT,none,bU,bh,dJ,eD,gX,gU,eH,ie,gV,bY,ig,iy,gZ,gS,none,dL,gR,gO,bh,iH,iI,iB,hO,bT,cP,cX,cV,bT,cX,iG,cV,iz,none,bY,none,bY,iA,eD,aeC,afR,eH,agj,afk,bh,afd,afp,agl,nE,ab6,cP,aa6,zZ,abQ,uk,aah,aK,aK,fg,qA,aK,fg,bh,aK,fD,aK,aK,fg,bh,aK],.tup [.agg [.u 0,.bool false,.aa,.slo 120 0 10 10 4 false],.i 70,.agg [.i 0,.i 0]],[fW,fV,fp,aeL,fJ,fO,fZ,jO,jN,cC,cP,jE,cC,aK,dJ,jU,dL,cC,bU,gQ,gP,bT,none,bU,bh,dJ,eD,gX,gU,eH,ie,gV,bY,ig,iy,gZ,gS,none,dL,gR,gO,bh,iH,iI,iB,hO,bT,cP,cX,cV,bT,cX,iG,cV,iz,none,bY,none,bY,iA,eD,aeC,afR,eH,agj,afk,bh,afd,afp,agl,nE,ab6,cP,aa6,zZ,abQ,uk,aah,aK,aK,fg,qA,aK,fg,bh,aK,fD,aK,aK,fg,bh,aK,fg,abV,aK,aoG,akh,apz,bT,bY,akp,am2,anU,ao5,ap3,ap5,alA,anX,akQ,aoJ,bh,ap6,aoD,aoh,nE,apb,aoE,ao7,akM,none,akP,abV])
theorem atX:ga Tryz.prog (C0 mx) 89 wQ.1 wQ.2.1 wQ.2.2.1 wQ.2.2.2:=lM bN nI vw (by kernel_rfl)
end
end Go.Proofs.YtemmgalfdmnkoaaGreatDoor
