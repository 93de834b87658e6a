/- Calls of this program that bear no variable, reckoned by the evaluator, and told ahead: printed by a program. -/
import Derived.Test.YtemmgalfdmnkoaaGreatDoorAs7
namespace Go.Proofs.YtemmgalfdmnkoaaGreatDoor
noncomputable section
set_option linter.unusedVariables false
set_option maxRecDepth 1000000
variable {mx:Int}
def zC:Option Blk:=some (.cells [.u 0,.bool false,.aa,.slo 86 0 10 10 4 false] 68)
def aqE:Option Blk:=some (.cells [.u 2,.bool false,.aa,.aa,.u 0,.bool false,.slo 71 0 2 2 1 false,.aa] 68)
def asJ:Option Blk:=some (.cells [.u 0,.bool false,.aa,.slo 72 0 2 2 4 false] 68)
def asx:Option Blk:=some (.cells [.u 1,.bool false,.aa,.aa,.u 0,.bool false,.slo 74 0 1 1 1 false,.aa] 68)
def arT:Option Blk:=some (.cells [.u 0,.bool false,.aa,.slo 75 0 2 2 4 false] 68)
def asO:Option Blk:=some (.cells [.u 0,.bool false,.aa,.slo 73 0 1 1 4 false,.u 0,.bool false,.aa,.slo 76 0 1 1 4 false,.u 1,.bool false,.aa,.slo 77 0 1 1 4 false] 68)
def arh:Option Blk:=some (.cells [.u 0,.bool false,.aa,.slo 78 0 3 3 4 false,.u 1,.bool false,.aa,.aa,.u 1,.bool false,.aa,.aa] 68)
def aqM:Option Blk:=some (.cells [.u 0,.bool false,.aa,.slo 79 0 3 3 4 false] 68)
def aqV:Option Blk:=some (.cells [.u 2,.bool false,.aa,.slo 81 0 1 1 4 false] 68)
def aoI:Option Blk:=some (.cells [.u 0,.bool false,.aa,.slo 82 0 1 1 4 false,.u 1,.bool false,.aa,.aa,.u 1,.bool false,.aa,.aa,.u 9,.bool false,.aa,.aa,.u 4,.bool false,.aa,.aa,.u 0,.bool false,.slo 83 0 4 4 1 false,.aa] 68)
def apf:Option Blk:=some (.cells [.u 0,.bool false,.aa,.slo 84 0 6 6 4 false] 68)
def alX:Option Blk:=some (.cells [.u 7,.bool false,.aa,.aa,.u 33152,.bool false,.aa,.aa,.u 1,.bool false,.aa,.aa,.u 1,.bool false,.aa,.aa,.u 0,.bool false,.aa,.aa,.u 0,.bool false,.aa,.aa,.u 0,.bool false,.aa,.slo 80 0 1 1 4 false,.u 0,.bool false,.aa,.slo 85 0 1 1 4 false,.u 0,.bool false,.aa,.aa,.u 0,.bool false,.aa,.aa] 68)
def amk:Option Blk:=some (.cells [.slo 91 0 38 38 1 false,.i 38] 193)
def alk:Option Blk:=some (.cells [fL,.pto 89 0,.i 34,.i 0,.i 0] 126)
def asq7:List AV:=[.b 0,.b 7,.b 129,.b 128,.b 0,.b 1,.b 0,.b 1,.b 0,.b 0,.b 0,.b 0,.b 2,.b 97,.b 98,.b 1,.b 99,.b 0,.b 0,.b 1,.b 0,.b 1,.b 192,.b 12,.b 0,.b 1,.b 0,.b 1,.b 0,.b 0,.b 0,.b 9,.b 0,.b 4,.b 1,.b 2,.b 3,.b 4]
def aoR:Option Blk:=some (.cells asq7 6)
def uk:Option Blk:=some (.cells asq7 0)
def ayg:BT (List Ent):=(.nd 132 (.nd 34 (.lf 6 [mg]) (.lf 34 [uK])) (.nd 188 (.lf 132 [yl]) (.lf 188 [sW])))
theorem vw:gy Tryz.prog (C0 mx) ayg:=⟨⟨(kq x9),(kq am4)⟩,⟨(kq atv),(kq afK)⟩⟩
def xm:Ent:=([fL,.agg [.u 0,.bool false,.aa,.slo 59 0 10 10 4 false],.i 65536],[fW,fV,fp,kS,fJ,fO,fZ,jO,jN,cC,cP,jE,cC,aK,dJ,jU,dL,cC,bU,gQ,gP,bT,none,bU,bh,dJ,eD,gX,gU,eH,ie,gV,bY,ig,iy,gZ,gS,none,dL,gR,gO,bh,iH,iI,iB,hO,bT,cP,cX,cV,bT,cX,iG,cV,iz,none,bY,none,bY,iA,bU,bh,aK,fD,aK,aK,aK,aK],.tup [.slo 94 0 38 38 1 false,.agg [.u 0,.bool false,.aa,.slo 86 0 10 10 4 false],.agg [.i 0,.i 0]],[fW,fV,fp,kS,fJ,fO,fZ,jO,jN,cC,cP,jE,cC,aK,dJ,jU,dL,cC,bU,gQ,gP,bT,none,bU,bh,dJ,eD,gX,gU,eH,ie,gV,bY,ig,iy,gZ,gS,none,dL,gR,gO,bh,iH,iI,iB,hO,bT,cP,cX,cV,bT,cX,iG,cV,iz,none,bY,none,bY,iA,bU,bh,aK,fD,aK,aK,aK,aK,bU,zC,aK,eD,aqE,asJ,eH,asx,arT,bh,asO,arh,aqM,nE,aqV,cP,aoI,apf,alX,zC,aK,amk,alk,aoR,zC,bT,uk])
theorem atM:ga Tryz.prog (C0 mx) 16 xm.1 xm.2.1 xm.2.2.1 xm.2.2.2:=lM bN nI vw (by kernel_rfl)
end
end Go.Proofs.YtemmgalfdmnkoaaGreatDoor
