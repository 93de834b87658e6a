/- Calls of this program that bear no variable, reckoned by the evaluator, and told ahead: printed by a program. -/
import Derived.Test.YtemmgalfdmnkoaaGreatDoorAs6
namespace Go.Proofs.YtemmgalfdmnkoaaGreatDoor
noncomputable section
set_option linter.unusedVariables false
set_option maxRecDepth 1000000
variable {mx:Int}
def afG:AV:=.ptp aud 0
def afc:Option Blk:=some (.cells [.u 0,.bool false,.aa,.slo 90 0 10 10 4 false] 68)
def aqd:Option Blk:=some (.cells [afG,.i 34,.i 0,.i 0] 188)
def aqs:Option Blk:=some (.cells [.u 2,.bool false,.aa,.aa,.u 0,.bool false,.slo 75 0 2 2 1 false,.aa] 68)
def asI:Option Blk:=some (.cells [.u 0,.bool false,.aa,.slo 76 0 2 2 4 false] 68)
def aqQ:Option Blk:=some (.cells [.u 1,.bool false,.aa,.aa,.u 0,.bool false,.slo 78 0 1 1 1 false,.aa] 68)
def arx:Option Blk:=some (.cells [.u 0,.bool false,.aa,.slo 79 0 2 2 4 false] 68)
def aqc:Option Blk:=some (.cells [.u 0,.bool false,.aa,.slo 77 0 1 1 4 false,.u 0,.bool false,.aa,.slo 80 0 1 1 4 false,.u 1,.bool false,.aa,.slo 81 0 1 1 4 false] 68)
def asw:Option Blk:=some (.cells [.u 0,.bool false,.aa,.slo 82 0 3 3 4 false,.u 1,.bool false,.aa,.aa,.u 1,.bool false,.aa,.aa] 68)
def aoS:Option Blk:=some (.cells [.u 0,.bool false,.aa,.slo 83 0 3 3 4 false] 68)
def nE:Option Blk:=some (.cells [.u 49164,.bool false,.aa,.aa] 68)
def alL:Option Blk:=some (.cells [.u 2,.bool false,.aa,.slo 85 0 1 1 4 false] 68)
def aov:Option Blk:=some (.cells [.u 0,.bool false,.aa,.slo 86 0 1 1 4 false,.u 1,.bool false,.aa,.aa,.u 1,.bool false,.aa,.aa,.u 9,.bool false,.aa,.aa,.u 4,.bool false,.aa,.aa,.u 0,.bool false,.slo 87 0 4 4 1 false,.aa] 68)
def anw:Option Blk:=some (.cells [.u 0,.bool false,.aa,.slo 88 0 6 6 4 false] 68)
def akA:Option Blk:=some (.cells [.u 7,.bool false,.aa,.aa,.u 33152,.bool false,.aa,.aa,.u 1,.bool false,.aa,.aa,.u 1,.bool false,.aa,.aa,.u 0,.bool false,.aa,.aa,.u 0,.bool false,.aa,.aa,.u 0,.bool false,.aa,.slo 84 0 1 1 4 false,.u 0,.bool false,.aa,.slo 89 0 1 1 4 false,.u 0,.bool false,.aa,.aa,.u 0,.bool false,.aa,.aa] 68)
def uK:Ent:=([afG,.agg [.u 0,.bool false,.aa,.slo 59 0 10 10 4 false]],[fW,fV,fp,kS,fJ,fO,fZ,jO,jN,cC,cP,jE,cC,aK,dJ,jU,dL,cC,bU,gQ,gP,bT,none,bU,bh,dJ,eD,gX,gU,eH,ie,gV,bY,ig,iy,gZ,gS,none,dL,gR,gO,bh,iH,iI,iB,hO,bT,cP,cX,cV,bT,cX,iG,cV,iz,none,bY,none,bY,iA,bU,bh,aK,fD,aK,aK,aK,aK,bU,bh,aK],.tup [.agg [.u 0,.bool false,.aa,.slo 90 0 10 10 4 false],.i 38,.agg [.i 0,.i 0]],[fW,fV,fp,kS,fJ,fO,fZ,jO,jN,cC,cP,jE,cC,aK,dJ,jU,dL,cC,bU,gQ,gP,bT,none,bU,bh,dJ,eD,gX,gU,eH,ie,gV,bY,ig,iy,gZ,gS,none,dL,gR,gO,bh,iH,iI,iB,hO,bT,cP,cX,cV,bT,cX,iG,cV,iz,none,bY,none,bY,iA,bU,bh,aK,fD,aK,aK,aK,aK,bU,bh,aK,bU,afc,aK,aqd,eD,aqs,asI,eH,aqQ,arx,bh,aqc,asw,aoS,nE,alL,cP,aov,anw,akA,afc])
theorem am4:ga Tryz.prog (C0 mx) 34 uK.1 uK.2.1 uK.2.2.1 uK.2.2.2:=lM bN nI ky (by kernel_rfl)
end
end Go.Proofs.YtemmgalfdmnkoaaGreatDoor
