/- Calls of this program that bear no variable, reckoned by the evaluator, and told ahead: printed by a program. -/
import Derived.Test.YtemmgalfdmnkoaaGreatDoorAs1
namespace Go.Proofs.YtemmgalfdmnkoaaGreatDoor
noncomputable section
set_option linter.unusedVariables false
set_option maxRecDepth 1000000
variable {mx:Int}
def avP:List AV×AV:=([.str [110,97,109,101]],.tup [.i 0,.bool false,.bool false])
theorem asm3:aZ Tryz.prog (C0 mx) 124 avP.1 avP.2:=aX bN bP bA (by kernel_rfl) (by kernel_rfl)
def awp:List AV×AV:=([.str [99,104,97,105,110]],.tup [.i 0,.bool false,.bool false])
theorem asm4:aZ Tryz.prog (C0 mx) 124 awp.1 awp.2:=aX bN bP bA (by kernel_rfl) (by kernel_rfl)
def avv:List AV×AV:=([.str [110]],.tup [.i 0,.bool false,.bool false])
theorem asm5:aZ Tryz.prog (C0 mx) 124 avv.1 avv.2:=aX bN bP bA (by kernel_rfl) (by kernel_rfl)
def awb:List AV×AV:=([.str [117,56]],.tup [.i 1,.bool false,.bool true])
theorem asm6:aZ Tryz.prog (C0 mx) 124 awb.1 awb.2:=aX bN bP bA (by kernel_rfl) (by kernel_rfl)
def auV:List AV×AV:=([.str [116]],.tup [.i 0,.bool false,.bool false])
theorem asm7:aZ Tryz.prog (C0 mx) 124 auV.1 auV.2:=aX bN bP bA (by kernel_rfl) (by kernel_rfl)
def av9:List AV×AV:=([.str [98,121,116,101,115]],.tup [.i 0,.bool false,.bool false])
theorem asm8:aZ Tryz.prog (C0 mx) 124 av9.1 av9.2:=aX bN bP bA (by kernel_rfl) (by kernel_rfl)
def avl:List AV×AV:=([.str [117,49,54,98,101]],.tup [.i 2,.bool false,.bool true])
theorem asm9:aZ Tryz.prog (C0 mx) 124 avl.1 avl.2:=aX bN bP bA (by kernel_rfl) (by kernel_rfl)
def akI:List AV×AV:=([.str [113,117,101,115,116,105,111,110]],.tup [.i 0,.bool false,.bool false])
theorem axT:aZ Tryz.prog (C0 mx) 124 akI.1 akI.2:=aX bN bP bA (by kernel_rfl) (by kernel_rfl)
def anc:List AV×AV:=([.str [113,110,97,109,101]],.tup [.i 0,.bool false,.bool false])
theorem awO:aZ Tryz.prog (C0 mx) 124 anc.1 anc.2:=aX bN bP bA (by kernel_rfl) (by kernel_rfl)
def ajN:List AV×AV:=([.str [113,116,121,112,101]],.tup [.i 0,.bool false,.bool false])
theorem ayd:aZ Tryz.prog (C0 mx) 124 ajN.1 ajN.2:=aX bN bP bA (by kernel_rfl) (by kernel_rfl)
def apt:List AV×AV:=([.str [113,99,108,97,115,115]],.tup [.i 0,.bool false,.bool false])
theorem awC:aZ Tryz.prog (C0 mx) 124 apt.1 apt.2:=aX bN bP bA (by kernel_rfl) (by kernel_rfl)
def amF:List AV×AV:=([.str [114,101,99,111,114,100]],.tup [.i 0,.bool false,.bool false])
theorem ax0:aZ Tryz.prog (C0 mx) 124 amF.1 amF.2:=aX bN bP bA (by kernel_rfl) (by kernel_rfl)
def akl:List AV×AV:=([.str [114,110,97,109,101]],.tup [.i 0,.bool false,.bool false])
theorem aw4:aZ Tryz.prog (C0 mx) 124 akl.1 akl.2:=aX bN bP bA (by kernel_rfl) (by kernel_rfl)
def ap2:List AV×AV:=([.str [114,116,121,112,101]],.tup [.i 0,.bool false,.bool false])
theorem awP:aZ Tryz.prog (C0 mx) 124 ap2.1 ap2.2:=aX bN bP bA (by kernel_rfl) (by kernel_rfl)
def apy:List AV×AV:=([.str [114,99,108,97,115,115]],.tup [.i 0,.bool false,.bool false])
theorem axu:aZ Tryz.prog (C0 mx) 124 apy.1 apy.2:=aX bN bP bA (by kernel_rfl) (by kernel_rfl)
def amc:List AV×AV:=([.str [116,116,108]],.tup [.i 0,.bool false,.bool false])
theorem axd:aZ Tryz.prog (C0 mx) 124 amc.1 amc.2:=aX bN bP bA (by kernel_rfl) (by kernel_rfl)
def als:List AV×AV:=([.str [117,51,50,98,101]],.tup [.i 4,.bool false,.bool true])
theorem axX:aZ Tryz.prog (C0 mx) 124 als.1 als.2:=aX bN bP bA (by kernel_rfl) (by kernel_rfl)
def alS:List AV×AV:=([.str [108,101,110]],.tup [.i 0,.bool false,.bool false])
theorem axg:aZ Tryz.prog (C0 mx) 124 alS.1 alS.2:=aX bN bP bA (by kernel_rfl) (by kernel_rfl)
def al3:List AV×AV:=([.str [100,97,116,97]],.tup [.i 0,.bool false,.bool false])
theorem axf:aZ Tryz.prog (C0 mx) 124 al3.1 al3.2:=aX bN bP bA (by kernel_rfl) (by kernel_rfl)
def aof:List AV×AV:=([.str [109,97,105,110]],.tup [.i 0,.bool false,.bool false])
theorem ax6:aZ Tryz.prog (C0 mx) 124 aof.1 aof.2:=aX bN bP bA (by kernel_rfl) (by kernel_rfl)
def ani:List AV×AV:=([.str [105,100]],.tup [.i 0,.bool false,.bool false])
theorem ayb:aZ Tryz.prog (C0 mx) 124 ani.1 ani.2:=aX bN bP bA (by kernel_rfl) (by kernel_rfl)
def an6:List AV×AV:=([.str [102,108,97,103,115]],.tup [.i 0,.bool false,.bool false])
theorem awF:aZ Tryz.prog (C0 mx) 124 an6.1 an6.2:=aX bN bP bA (by kernel_rfl) (by kernel_rfl)
def aky:List AV×AV:=([.str [113,100]],.tup [.i 0,.bool false,.bool false])
theorem aw1:aZ Tryz.prog (C0 mx) 124 aky.1 aky.2:=aX bN bP bA (by kernel_rfl) (by kernel_rfl)
def ana:List AV×AV:=([.str [113,117,101,115,116,105,111,110,115]],.tup [.i 0,.bool false,.bool false])
theorem aye:aZ Tryz.prog (C0 mx) 124 ana.1 ana.2:=aX bN bP bA (by kernel_rfl) (by kernel_rfl)
def anl:List AV×AV:=([.str [97,110]],.tup [.i 0,.bool false,.bool false])
theorem awZ:aZ Tryz.prog (C0 mx) 124 anl.1 anl.2:=aX bN bP bA (by kernel_rfl) (by kernel_rfl)
def ajJ:List AV×AV:=([.str [97,110,115,119,101,114,115]],.tup [.i 0,.bool false,.bool false])
theorem axe:aZ Tryz.prog (C0 mx) 124 ajJ.1 ajJ.2:=aX bN bP bA (by kernel_rfl) (by kernel_rfl)
def ala:List AV×AV:=([.str [110,115]],.tup [.i 0,.bool false,.bool false])
theorem aw2:aZ Tryz.prog (C0 mx) 124 ala.1 ala.2:=aX bN bP bA (by kernel_rfl) (by kernel_rfl)
def anz:List AV×AV:=([.str [97,117,116,104,111,114,105,116,121]],.tup [.i 0,.bool false,.bool false])
theorem axz:aZ Tryz.prog (C0 mx) 124 anz.1 anz.2:=aX bN bP bA (by kernel_rfl) (by kernel_rfl)
def aoA:List AV×AV:=([.str [97,114]],.tup [.i 0,.bool false,.bool false])
theorem awE:aZ Tryz.prog (C0 mx) 124 aoA.1 aoA.2:=aX bN bP bA (by kernel_rfl) (by kernel_rfl)
def akY:List AV×AV:=([.str [97,100,100,105,116,105,111,110,97,108]],.tup [.i 0,.bool false,.bool false])
theorem ax3:aZ Tryz.prog (C0 mx) 124 akY.1 akY.2:=aX bN bP bA (by kernel_rfl) (by kernel_rfl)
def ajX:List AV×AV:=([.str [116,105,109,101,115]],.tup [.i 0,.bool false,.bool false])
theorem awB:aZ Tryz.prog (C0 mx) 124 ajX.1 ajX.2:=aX bN bP bA (by kernel_rfl) (by kernel_rfl)
def atn:List AV:=[.str [113,110,97,109,101],.i 6,.i 0,.str [],.str [],.str [113,116,121,112,101],.i 7,.i 0,.str [],.str [],.str [113,99,108,97,115,115],.i 8,.i 0,.str [],.str []]
def asq5:List AV:=[.str [114,110,97,109,101],.i 10,.i 0,.str [],.str [],.str [114,116,121,112,101],.i 11,.i 0,.str [],.str [],.str [114,99,108,97,115,115],.i 12,.i 0,.str [],.str [],.str [116,116,108],.i 13,.i 0,.str [],.str [],.str [108,101,110],.i 14,.i 1,.str [100,97,116,97],.str [],.str [100,97,116,97],.i 15,.i 0,.str [],.str []]
def asq4:List AV:=[.str [105,100],.i 17,.i 0,.str [],.str [],.str [102,108,97,103,115],.i 18,.i 0,.str [],.str [],.str [113,100],.i 19,.i 2,.str [113,117,101,115,116,105,111,110,115],.str [],.str [97,110],.i 20,.i 2,.str [97,110,115,119,101,114,115],.str [],.str [110,115],.i 21,.i 2,.str [97,117,116,104,111,114,105,116,121],.str [],.str [97,114],.i 22,.i 2,.str [97,100,100,105,116,105,111,110,97,108],.str [],.str [113,117,101,115,116,105,111,110,115],.i 24,.i 0,.str [],.str [],.str [97,110,115,119,101,114,115],.i 26,.i 0,.str [],.str [],.str [97,117,116,104,111,114,105,116,121],.i 28,.i 0,.str [],.str [],.str [97,100,100,105,116,105,111,110,97,108],.i 30,.i 0,.str [],.str []]
def asq2:List AV:=[.i 1,.i 1,.bool false,.bool false,.bool false,.u 1,.u 63,.str [],.str [],.u 0,.u 0,.aa,.aa,.aa,.str [],.u 0,.aa,.i 0,.i 4,.i 0,.bool false,.bool false,.bool false,.u 0,.u 0,.str [],.str [110],.u 1,.u 0,.aa,.aa,.aa,.str [],.u 0,.aa,.i 0,.i 5,.i 0,.bool false,.bool false,.bool false,.u 0,.u 0,.str [],.str [],.u 0,.u 0,.aa,.aa,.slp [.str [110],.i 0,.i 1,.str [116],.str [],.str [116],.i 1,.i 0,.str [],.str []] 2,.str [],.u 0,.aa,.i 0,.i 1,.i 1,.bool false,.bool false,.bool false,.u 0,.u 0,.str [],.str [],.u 0,.u 0,.aa,.aa,.aa,.str [],.u 0,.aa,.i 0,.i 1,.i 2,.bool false,.bool false,.bool false,.u 49152,.u 65535,.str [],.str [],.u 0,.u 0,.aa,.aa,.aa,.str [],.u 0,.aa,.i 0,.i 11,.i 0,.bool false,.bool false,.bool false,.u 0,.u 0,.str [],.str [],.u 0,.u 0,.slp [.i 2,.i 3,.i 4] 3,.slp [.bool false,.bool true,.bool true] 3,.aa,.str [],.u 0,.aa,.i 0,.i 13,.i 0,.bool false,.bool false,.bool false,.u 0,.u 0,.str [110,97,109,101],.str [],.u 0,.u 0,.aa,.aa,.aa,.str [],.u 0,.aa,.i 0,.i 1,.i 2,.bool false,.bool false,.bool false,.u 0,.u 65535,.str [],.str [],.u 0,.u 0,.aa,.aa,.aa,.str [],.u 0,.aa,.i 0,.i 1,.i 2,.bool false,.bool false,.bool false,.u 0,.u 65535,.str [],.str [],.u 0,.u 0,.aa,.aa,.aa,.str [],.u 0,.aa,.i 0,.i 5,.i 0,.bool false,.bool false,.bool false,.u 0,.u 0,.str [],.str [],.u 0,.u 0,.aa,.aa,.slp atn 3,.str [],.u 0,.aa,.i 0,.i 13,.i 0,.bool false,.bool false,.bool false,.u 0,.u 0,.str [110,97,109,101],.str [],.u 0,.u 0,.aa,.aa,.aa,.str [],.u 0,.aa,.i 0,.i 1,.i 2,.bool false,.bool false,.bool false,.u 0,.u 65535,.str [],.str [],.u 0,.u 0,.aa,.aa,.aa,.str [],.u 0,.aa,.i 0,.i 1,.i 2,.bool false,.bool false,.bool false,.u 0,.u 65535,.str [],.str [],.u 0,.u 0,.aa,.aa,.aa,.str [],.u 0,.aa,.i 0,.i 1,.i 4,.bool false,.bool false,.bool false,.u 0,.u 4294967295,.str [],.str [],.u 0,.u 0,.aa,.aa,.aa,.str [],.u 0,.aa,.i 0,.i 1,.i 2,.bool false,.bool false,.bool false,.u 0,.u 65535,.str [],.str [],.u 0,.u 0,.aa,.aa,.aa,.str [],.u 0,.aa,.i 0,.i 4,.i 0,.bool false,.bool false,.bool false,.u 0,.u 0,.str [],.str [108,101,110],.u 1,.u 0,.aa,.aa,.aa,.str [],.u 0,.aa,.i 0,.i 5,.i 0,.bool false,.bool false,.bool false,.u 0,.u 0,.str [],.str [],.u 0,.u 0,.aa,.aa,.slp asq5 6,.str [],.u 0,.aa,.i 0,.i 1,.i 2,.bool false,.bool false,.bool false,.u 0,.u 65535,.str [],.str [],.u 0,.u 0,.aa,.aa,.aa,.str [],.u 0,.aa,.i 0,.i 1,.i 2,.bool false,.bool false,.bool false,.u 0,.u 65535,.str [],.str [],.u 0,.u 0,.aa,.aa,.aa,.str [],.u 0,.aa,.i 0,.i 1,.i 2,.bool false,.bool false,.bool false,.u 0,.u 65535,.str [],.str [],.u 0,.u 0,.aa,.aa,.aa,.str [],.u 0,.aa,.i 0,.i 1,.i 2,.bool false,.bool false,.bool false,.u 0,.u 65535,.str [],.str [],.u 0,.u 0,.aa,.aa,.aa,.str [],.u 0,.aa,.i 0,.i 1,.i 2,.bool false,.bool false,.bool false,.u 0,.u 65535,.str [],.str [],.u 0,.u 0,.aa,.aa,.aa,.str [],.u 0,.aa,.i 0,.i 1,.i 2,.bool false,.bool false,.bool false,.u 0,.u 65535,.str [],.str [],.u 0,.u 0,.aa,.aa,.aa,.str [],.u 0,.aa,.i 0,.i 13,.i 0,.bool false,.bool false,.bool false,.u 0,.u 0,.str [113,117,101,115,116,105,111,110],.str [],.u 0,.u 0,.aa,.aa,.aa,.str [],.u 0,.aa,.i 0,.i 6,.i 0,.bool false,.bool false,.bool false,.u 0,.u 0,.str [],.str [113,100],.u 1,.u 0,.slp [.i 23] 1,.aa,.aa,.str [],.u 0,.aa,.i 0,.i 13,.i 0,.bool false,.bool false,.bool false,.u 0,.u 0,.str [114,101,99,111,114,100],.str [],.u 0,.u 0,.aa,.aa,.aa,.str [],.u 0,.aa,.i 0,.i 6,.i 0,.bool false,.bool false,.bool false,.u 0,.u 0,.str [],.str [97,110],.u 1,.u 0,.slp [.i 25] 1,.aa,.aa,.str [],.u 0,.aa,.i 0,.i 13,.i 0,.bool false,.bool false,.bool false,.u 0,.u 0,.str [114,101,99,111,114,100],.str [],.u 0,.u 0,.aa,.aa,.aa,.str [],.u 0,.aa,.i 0,.i 6,.i 0,.bool false,.bool false,.bool false,.u 0,.u 0,.str [],.str [110,115],.u 1,.u 0,.slp [.i 27] 1,.aa,.aa,.str [],.u 0,.aa,.i 0,.i 13,.i 0,.bool false,.bool false,.bool false,.u 0,.u 0,.str [114,101,99,111,114,100],.str [],.u 0,.u 0,.aa,.aa,.aa,.str [],.u 0,.aa,.i 0,.i 6,.i 0,.bool false,.bool false,.bool false,.u 0,.u 0,.str [],.str [97,114],.u 1,.u 0,.slp [.i 29] 1,.aa,.aa,.str [],.u 0,.aa,.i 0,.i 5,.i 0,.bool false,.bool false,.bool false,.u 0,.u 0,.str [],.str [],.u 0,.u 0,.aa,.aa,.slp asq4 10,.str [],.u 0,.aa,.i 0]
def mJ:List AV:=[.str [110,97,109,101],.i 5,.str [113,117,101,115,116,105,111,110],.i 9,.str [114,101,99,111,114,100],.i 16,.str [109,97,105,110],.i 31]
def dN:AV:=.agg [.slp asq2 32,.slp mJ 4]
def axV:BT (List (List AV×AV)):=(.nd 117 (.lf 46 [oz]) (.nd 124 (.lf 117 [nc]) (.lf 124 [ajX,akY,aoA,anz,ala,ajJ,anl,ana,aky,an6,ani,aof,al3,alS,als,amc,apy,ap2,akl,amF,apt,ajN,anc,akI,avl,av9,auV,awb,avv,awp,avP])))
theorem apw:cu Tryz.prog (C0 mx) axV:=⟨(kq qM),⟨(kq pJ),(kc_ awB (kc_ ax3 (kc_ awE (kc_ axz (kc_ aw2 (kc_ axe (kc_ awZ (kc_ aye (kc_ aw1 (kc_ awF (kc_ ayb (kc_ ax6 (kc_ axf (kc_ axg (kc_ axX (kc_ axd (kc_ axu (kc_ awP (kc_ aw4 (kc_ ax0 (kc_ awC (kc_ ayd (kc_ awO (kc_ axT (kc_ asm9 (kc_ asm8 (kc_ asm7 (kc_ asm6 (kc_ asm5 (kc_ asm4 (kq asm3)))))))))))))))))))))))))))))))⟩⟩
def jq:List AV×AV:=([aox],.tup [dN,.agg [.i 0,.i 0]])
theorem kJ:aZ Tryz.prog (C0 mx) 19 jq.1 jq.2:=aX bN apw bA (by kernel_rfl) (by kernel_rfl)
def ax7:BT (List (List AV×AV)):=(.nd 117 (.nd 46 (.lf 19 [jq]) (.lf 46 [oz])) (.nd 124 (.lf 117 [nc]) .nl))
theorem zX:cu Tryz.prog (C0 mx) ax7:=⟨⟨(kq kJ),(kq qM)⟩,⟨(kq pJ),trivial⟩⟩
end
end Go.Proofs.YtemmgalfdmnkoaaGreatDoor
