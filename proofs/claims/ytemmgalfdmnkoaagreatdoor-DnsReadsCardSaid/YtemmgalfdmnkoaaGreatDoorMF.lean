/- The tables of this program, and its context, which is right. -/
import Derived.Test.YtemmgalfdmnkoaaGreatDoorProg
import Derived.Test.YtemmgalfdmnkoaaGreatDoorMA
import Derived.Shelf.Strings.Search1
import Derived.Shelf.Strings.Search2
import Derived.Shelf.Strings.Search3
import Derived.Shelf.LaysM
import Derived.Shelf.Strings.Shaped
import Derived.Shelf.Unicode.Latin
import Derived.Shelf.Bits.Mul64
import Derived.Shelf.Unicode.Is16White
import Derived.Shelf.Unicode.IsSpaceAny
import Derived.Shelf.Unicode.Is16Any
import Derived.Shelf.Unicode.Is32Any
import Derived.Shelf.Unicode.ExclAny
import Derived.Test.YtemmgalfdmnkoaaGreatDoorME
import Derived.Test.YtemmgalfdmnkoaaGreatDoorRows
import Derived.WalkKit
import Derived.Tactics
import Derived.Tactics2
import Derived.Defers
import Derived.Laws.Pointers
import Derived.Laws.LoneSync
import Derived.RegionTactic
import Derived.RegionCalls
import Derived.Shelf.Abstract
import Derived.Shelf.Vars
import Derived.LaidMore
import Derived.MakeChecks
namespace Go.Proofs.YtemmgalfdmnkoaaGreatDoor
set_option linter.unusedVariables false
set_option linter.unusedSimpArgs false
set_option linter.unnecessarySimpa false
noncomputable section
def ac (n:Nat):TI:=⟨.pointer n,1,8,[.nil],false,false⟩
def ce (n:Nat):TI:=⟨.slice n,1,24,[.aa],false,false⟩
def co:TI:=⟨.func,1,8,[.nilf],false,false⟩
def ii:TI:=⟨.int .i64,1,8,[.i 0],false,true⟩
def io:TI:=⟨.int .u8,1,1,[.b 0],false,true⟩
def i6:TI:=⟨.int .u64,1,8,[.u 0],false,true⟩
def i7:TI:=⟨.struct [(0,3),(1,3),(2,3)],3,24,[.i 0,.i 0,.i 0],true,true⟩
def i9:TI:=⟨.struct [],0,0,[],true,true⟩
def jp:TI:=⟨.struct [(0,64),(1,3)],2,16,[.u 0,.i 0],true,true⟩
def kw:TI:=⟨.struct [(0,9),(1,64)],2,24,[.str [],.u 0],true,true⟩
def li:TI:=⟨.struct [(0,3),(1,3)],2,16,[.i 0,.i 0],true,true⟩
def ls:TI:=⟨.string,1,16,[.str []],false,true⟩
def md:TI:=⟨.int .i32,1,4,[.v 0],false,true⟩
def m6:TI:=⟨.struct [(0,2),(1,3),(2,4),(3,6)],4,24,[.i 0,.i 0,.bool false,.b 0],true,false⟩
def m8:TI:=⟨.struct [(0,9),(1,12)],2,24,[.str [],.u 0],true,false⟩
def pi:TI:=⟨.struct [(0,17)],1,8,[.nil],true,false⟩
def pp:TI:=⟨.struct [(0,24),(1,24),(2,25),(3,27)],6,104,[.int 65535 0,.int 65535 0,.aa,.aa,.aa,.aa],true,false⟩
def ro:TI:=⟨.struct [(0,30),(1,3)],2,16,[.i 0,.i 0],true,true⟩
def rt:TI:=⟨.struct [(0,45),(1,3)],2,32,[.aa,.i 0],true,false⟩
def rx:TI:=⟨.struct [(0,47),(2,24),(3,24)],4,40,[.aa,.i 0,.int 65535 0,.int 65535 0],true,false⟩
def sp:TI:=⟨.struct [(0,47),(2,24),(3,24),(4,50),(5,22)],6,64,[.aa,.i 0,.int 65535 0,.int 65535 0,.w 0,.aa],true,false⟩
def ut:TI:=⟨.struct [(0,59),(1,60)],2,48,[.aa,.aa],true,false⟩
def wd:TI:=⟨.struct [(0,64),(1,4),(2,22),(3,65)],4,64,[.u 0,.bool false,.aa,.aa],true,false⟩
def wl:TI:=⟨.struct [(0,79)],1,8,[.nil],true,false⟩
def wn:TI:=⟨.struct [(0,100),(0,50)],1,4,[.w 0],true,false⟩
def wt:TI:=⟨.struct [(0,21),(1,50)],2,8,[.v 0,.w 0],true,true⟩
def ww:TI:=⟨.struct [(0,99),(0,104)],2,8,[.v 0,.w 0],true,false⟩
def Aa:TI:=⟨.struct [(0,99),(0,102),(1,106)],3,12,[.w 0,.v 0,.w 0],true,false⟩
def Ab:TI:=⟨.struct [(0,100),(0,21)],1,4,[.v 0],true,false⟩
def Ac:TI:=⟨.struct [(0,100),(0,112),(0,64)],1,8,[.u 0],true,false⟩
def Ad:TI:=⟨.struct [(0,108),(3,109),(259,111),(260,114)],261,1048,(av [.w 0,.v 0] (av (aU 257 (.w 0)) [.v 0,.u 0])),true,false⟩
def Ae:TI:=⟨.struct [(0,93),(1,62),(3,97)],4,64,[.nil,.aa,.aa,.nil],true,false⟩
def Af:TI:=⟨.struct [(0,56),(1,122),(2,3),(3,32)],5,40,[.nil,.nil,.i 0,.i 0,.i 0],true,false⟩
def Ag:TI:=⟨.struct [(0,62)],2,48,[.aa,.aa],true,false⟩
def Ah:TI:=⟨.struct [(0,137),(1,3),(2,142),(4,32)],6,96,[.aa,.i 0,.aa,.aa,.i 0,.i 0],true,false⟩
def Ai:TI:=⟨.struct [(0,3),(1,3),(2,9)],3,32,[.i 0,.i 0,.str []],true,true⟩
def Aj:TI:=⟨.struct [(0,9),(1,3)],2,24,[.str [],.i 0],true,true⟩
def Ak:TI:=⟨.struct [(0,153),(1,45)],2,32,[.nilm,.aa],true,false⟩
def Al:TI:=⟨.struct [(0,64),(1,3),(2,3)],3,24,[.u 0,.i 0,.i 0],true,true⟩
def Am:TI:=⟨.struct [(0,100),(0,112),(0,2)],1,8,[.i 0],true,false⟩
def Ao:TI:=⟨.struct [(0,114),(1,114),(2,114),(3,114),(4,114)],5,40,[.u 0,.u 0,.u 0,.u 0,.u 0],true,false⟩
def Aq:TI:=⟨.struct [(0,9),(1,62),(3,4),(4,108),(7,157),(8,56),(9,159),(12,32),(14,161),(15,111),(16,163)],21,192,[.str [],.aa,.aa,.bool false,.w 0,.v 0,.w 0,.nil,.nil,.u 0,.i 0,.i 0,.i 0,.i 0,.i 0,.v 0,.u 0,.u 0,.u 0,.u 0,.u 0],true,false⟩
def Ar:TI:=⟨.struct [(0,62),(2,169)],3,56,[.aa,.aa,.nilm],true,false⟩
def As:TI:=⟨.struct [(0,9),(1,64),(2,64)],3,32,[.str [],.u 0,.u 0],true,true⟩
def At:TI:=⟨.struct [(0,3),(1,3),(2,4),(3,4),(4,4),(5,64),(6,64),(7,9),(8,176),(11,177),(12,178),(13,179),(14,9),(15,64),(16,180),(17,3)],18,216,[.i 0,.i 0,.bool false,.bool false,.bool false,.u 0,.u 0,.str [],.str [],.u 0,.u 0,.aa,.aa,.aa,.str [],.u 0,.aa,.i 0],true,false⟩
def Au:TI:=⟨.struct [(0,93),(1,3),(2,32)],4,32,[.nil,.i 0,.i 0,.i 0],true,false⟩
def Av:TI:=⟨.struct [(0,22),(1,3)],2,32,[.aa,.i 0],true,false⟩
def Aw:TI:=⟨.struct [(0,9),(1,3),(2,137)],3,48,[.str [],.i 0,.aa],true,false⟩
def Ax:TI:=⟨.struct [(0,9),(1,3),(2,3),(3,9),(4,9)],5,64,[.str [],.i 0,.i 0,.str [],.str []],true,true⟩
def Ay:TI:=⟨.struct [(0,62),(2,233),(3,178),(4,169),(5,32)],7,120,[.aa,.aa,.aa,.aa,.nilm,.i 0,.i 0],true,false⟩
def Az:TI:=⟨.struct [(0,278),(1,3),(2,3),(3,3)],4,48,[.aa,.i 0,.i 0,.i 0],true,false⟩
def AA:TI:=⟨.struct [(0,280),(4,281),(5,282)],6,80,[.aa,.i 0,.i 0,.i 0,.aa,.nilm],true,false⟩
def AB:TI:=⟨.struct [(0,280),(4,281),(5,97),(6,22),(7,38),(10,3),(11,3),(12,3),(13,3),(14,286),(15,287),(16,65),(17,177),(18,286),(19,177),(20,32)],22,320,[.aa,.i 0,.i 0,.i 0,.aa,.nil,.aa,.i 0,.i 0,.i 0,.i 0,.i 0,.i 0,.i 0,.aa,.aa,.aa,.aa,.aa,.aa,.i 0,.i 0],true,false⟩
def AC:TI:=⟨.array 4 64,4,32,[.u 0,.u 0,.u 0,.u 0],true,true⟩
def AD:TI:=⟨.struct [(0,293),(4,4),(5,4)],6,40,[.u 0,.u 0,.u 0,.u 0,.bool false,.bool false],true,true⟩
def AE:TI:=⟨.struct [(0,67),(4,3),(5,3)],6,80,[.u 0,.bool false,.aa,.aa,.i 0,.i 0],true,false⟩
def AF:TI:=⟨.struct [(0,280),(4,4)],5,56,[.aa,.i 0,.i 0,.i 0,.bool false],true,false⟩
def AG:TI:=⟨.struct [(0,340),(5,62),(7,233),(8,169),(9,281),(10,282),(11,336),(12,337),(13,338)],14,192,[.aa,.i 0,.i 0,.i 0,.bool false,.aa,.aa,.aa,.nilm,.aa,.nilm,.nilm,.nilm,.nilm],true,false⟩
def AI:TI:=⟨.struct [(0,3),(1,3),(2,3),(3,4),(4,64),(5,64),(6,64),(7,64),(8,347),(9,314)],265,344,(av [.i 0,.i 0,.i 0,.bool false,.u 0,.u 0,.u 0,.u 0,.aa] (aU 256 (.b 0))),true,false⟩
def AJ:TI:=⟨.struct [(0,62),(2,286)],3,72,[.aa,.aa,.aa],true,false⟩
def AK:TI:=⟨.struct [(0,314),(256,373),(257,178)],258,304,(av (aU 256 (.b 0)) [.aa,.aa]),true,false⟩
def AL:TI:=⟨.struct [(0,50)],1,4,[.w 0],true,true⟩
def AM:TI:=⟨.struct [(0,62),(2,336)],3,56,[.aa,.aa,.nilm],true,false⟩
def AN:TI:=⟨.struct [(0,418),(1,419),(2,3)],3,56,[.aa,.aa,.i 0],true,false⟩
def AO:TI:=⟨.struct [(0,24),(1,24),(2,24)],3,6,[.int 65535 0,.int 65535 0,.int 65535 0],true,true⟩
def AP:TI:=⟨.struct [(0,50),(1,50),(2,50)],3,12,[.w 0,.w 0,.w 0],true,true⟩
def AQ:TI:=⟨.struct [(0,4),(1,64),(2,3)],3,24,[.bool false,.u 0,.i 0],true,true⟩
def AR:TI:=⟨.struct [(0,62),(2,337)],3,56,[.aa,.aa,.nilm],true,false⟩
def AS:TI:=⟨.struct [(0,9),(1,3),(2,3),(3,4)],4,40,[.str [],.i 0,.i 0,.bool false],true,true⟩
def AT:TI:=⟨.struct [(0,3),(1,292),(5,458),(6,3),(7,3)],8,80,[.i 0,.u 0,.u 0,.u 0,.u 0,.aa,.i 0,.i 0],true,false⟩
def AU:TI:=⟨.struct [(0,9),(1,3),(2,3),(3,32)],5,48,[.str [],.i 0,.i 0,.i 0,.i 0],true,true⟩
def AW:TI:=⟨.struct [(0,490),(1,3)],2,32,[.aa,.i 0],true,false⟩
def AX:TI:=⟨.struct [(0,492),(2,4)],3,40,[.aa,.i 0,.bool false],true,false⟩
def AY:TI:=⟨.struct [(0,3),(1,293),(5,4)],6,48,[.i 0,.u 0,.u 0,.u 0,.u 0,.bool false],true,true⟩
def AZ:TI:=⟨.struct [(0,17),(1,17),(2,17),(3,9)],4,40,[.nil,.nil,.nil,.str []],true,false⟩
def A3:TI:=⟨.struct [(0,568)],0,0,[],true,false⟩
def A4:TI:=⟨.struct [(0,12),(1,12),(2,50),(3,571),(4,5),(5,5),(6,572),(7,573),(8,574),(9,575),(10,576)],11,48,[.u 0,.u 0,.w 0,.b 0,.b 0,.b 0,.b 0,.nilf,.nil,.v 0,.v 0],true,false⟩
def A5:TI:=⟨.struct [(0,64),(1,64),(2,64),(3,64),(4,64)],5,40,[.u 0,.u 0,.u 0,.u 0,.u 0],true,true⟩
noncomputable def tyT:BT TI:=(.nd 291 (.nd 147 (.nd 75 (.nd 35 (.nd 17 (.nd 9 (.nd 5 (.nd 3 (.nd 2 (.lf 1 co) (.lf 2 ii)) (.nd 4 (.lf 3 ii) (.lf 4 ⟨.bool,1,1,[.bool false],false,true⟩))) (.nd 7 (.nd 6 (.lf 5 io) (.lf 6 io)) (.nd 8 (.lf 7 m6) (.lf 8 m6)))) (.nd 13 (.nd 11 (.nd 10 (.lf 9 ls) (.lf 10 ls)) (.nd 12 (.lf 11 ls) (.lf 12 i6))) (.nd 15 (.nd 14 (.lf 13 m8) (.lf 14 m8)) (.nd 16 (.lf 15 (ac 567)) (.lf 16 (ac 570)))))) (.nd 25 (.nd 21 (.nd 19 (.nd 18 (.lf 17 (ac 578)) (.lf 18 pi)) (.nd 20 (.lf 19 pi) (.lf 20 ⟨.iface,1,16,[.nili],false,false⟩))) (.nd 23 (.nd 22 (.lf 21 md) (.lf 22 (ce 5))) (.nd 24 (.lf 23 co) (.lf 24 ⟨.int .u16,1,2,[.int 65535 0],false,true⟩)))) (.nd 29 (.nd 27 (.nd 26 (.lf 25 (ce 49)) (.lf 26 (ce 52))) (.nd 28 (.lf 27 ⟨.array 3 26,3,72,[.aa,.aa,.aa],true,false⟩) (.lf 28 pp))) (.nd 31 (.nd 30 (.lf 29 pp) (.lf 30 ii)) (.nd 32 (.lf 31 ro) (.nd 34 (.lf 32 ro) (.lf 34 (ac 83)))))))) (.nd 54 (.nd 44 (.nd 39 (.nd 37 (.nd 36 (.lf 35 co) (.lf 36 co)) (.nd 38 (.lf 37 i7) (.lf 38 i7))) (.nd 42 (.nd 41 (.lf 39 co) (.lf 41 co)) (.nd 43 (.lf 42 co) (.lf 43 co)))) (.nd 48 (.nd 46 (.nd 45 (.lf 44 (ce 47)) (.lf 45 (ce 9))) (.nd 47 (.lf 46 rt) (.lf 47 rt))) (.nd 50 (.nd 49 (.lf 48 rx) (.lf 49 rx)) (.nd 51 (.lf 50 ⟨.int .u32,1,4,[.w 0],false,true⟩) (.nd 52 (.lf 51 sp) (.lf 52 sp)))))) (.nd 63 (.nd 59 (.nd 56 (.nd 55 (.lf 54 co) (.lf 55 co)) (.nd 58 (.lf 56 (ac 118)) (.lf 58 co))) (.nd 61 (.nd 60 (.lf 59 (ce 182)) (.lf 60 (ce 151))) (.nd 62 (.lf 61 ut) (.lf 62 ut)))) (.nd 67 (.nd 65 (.nd 64 (.lf 63 co) (.lf 64 i6)) (.nd 66 (.lf 65 (ce 67)) (.lf 66 wd))) (.nd 70 (.nd 69 (.lf 67 wd) (.lf 69 co)) (.nd 71 (.lf 70 co) (.nd 73 (.lf 71 co) (.lf 73 co)))))))) (.nd 111 (.nd 93 (.nd 83 (.nd 79 (.nd 77 (.nd 76 (.lf 75 co) (.lf 76 co)) (.nd 78 (.lf 77 co) (.lf 78 co))) (.nd 81 (.nd 80 (.lf 79 (ac 155)) (.lf 80 co)) (.nd 82 (.lf 81 co) (.lf 82 wl)))) (.nd 88 (.nd 86 (.nd 85 (.lf 83 wl) (.lf 85 (ac 165))) (.nd 87 (.lf 86 co) (.lf 87 co))) (.nd 91 (.nd 89 (.lf 88 co) (.lf 89 co)) (.nd 92 (.lf 91 co) (.lf 92 co))))) (.nd 102 (.nd 98 (.nd 96 (.nd 95 (.lf 93 (ac 173)) (.lf 95 co)) (.nd 97 (.lf 96 co) (.lf 97 (ac 116)))) (.nd 100 (.nd 99 (.lf 98 i9) (.lf 99 i9)) (.nd 101 (.lf 100 i9) (.lf 101 wn)))) (.nd 106 (.nd 104 (.nd 103 (.lf 102 wn) (.lf 103 wt)) (.nd 105 (.lf 104 wt) (.lf 105 ww))) (.nd 108 (.nd 107 (.lf 106 ww) (.lf 107 Aa)) (.nd 109 (.lf 108 Aa) (.nd 110 (.lf 109 ⟨.array 256 50,256,1024,aU 256 (.w 0),true,true⟩) (.lf 110 Ab))))))) (.nd 129 (.nd 120 (.nd 115 (.nd 113 (.nd 112 (.lf 111 Ab) (.lf 112 i9)) (.nd 114 (.lf 113 Ac) (.lf 114 Ac))) (.nd 117 (.nd 116 (.lf 115 Ad) (.lf 116 Ad)) (.nd 118 (.lf 117 Ae) (.lf 118 Ae)))) (.nd 124 (.nd 122 (.nd 121 (.lf 120 co) (.lf 121 (ac 125))) (.nd 123 (.lf 122 (ac 192)) (.lf 123 co))) (.nd 126 (.nd 125 (.lf 124 Af) (.lf 125 Af)) (.nd 127 (.lf 126 co) (.nd 128 (.lf 127 co) (.lf 128 co)))))) (.nd 137 (.nd 133 (.nd 131 (.nd 130 (.lf 129 co) (.lf 130 co)) (.nd 132 (.lf 131 co) (.lf 132 co))) (.nd 135 (.nd 134 (.lf 133 co) (.lf 134 co)) (.nd 136 (.lf 135 co) (.lf 136 i6)))) (.nd 142 (.nd 140 (.nd 139 (.lf 137 (ce 146)) (.lf 139 co)) (.nd 141 (.lf 140 (ac 144)) (.lf 141 Ag))) (.nd 144 (.nd 143 (.lf 142 Ag) (.lf 143 Ah)) (.nd 145 (.lf 144 Ah) (.nd 146 (.lf 145 Ai) (.lf 146 Ai))))))))) (.nd 219 (.nd 182 (.nd 164 (.nd 156 (.nd 152 (.nd 150 (.nd 149 (.lf 147 co) (.lf 149 co)) (.nd 151 (.lf 150 Aj) (.lf 151 Aj))) (.nd 154 (.nd 153 (.lf 152 co) (.lf 153 ⟨.map 9 85,1,8,[.nilm],false,false⟩)) (.nd 155 (.lf 154 Ak) (.lf 155 Ak)))) (.nd 160 (.nd 158 (.nd 157 (.lf 156 co) (.lf 157 (ac 284))) (.nd 159 (.lf 158 Al) (.lf 159 Al))) (.nd 162 (.nd 161 (.lf 160 Am) (.lf 161 Am)) (.nd 163 (.lf 162 Ao) (.lf 163 Ao))))) (.nd 173 (.nd 168 (.nd 166 (.nd 165 (.lf 164 Aq) (.lf 165 Aq)) (.nd 167 (.lf 166 co) (.lf 167 co))) (.nd 171 (.nd 169 (.lf 168 co) (.lf 169 ⟨.map 3 243,1,8,[.nilm],false,false⟩)) (.nd 172 (.lf 171 co) (.lf 172 Ar)))) (.nd 177 (.nd 175 (.nd 174 (.lf 173 Ar) (.lf 174 co)) (.nd 176 (.lf 175 As) (.lf 176 As))) (.nd 179 (.nd 178 (.lf 177 (ce 3)) (.lf 178 (ce 4))) (.nd 180 (.lf 179 (ce 220)) (.nd 181 (.lf 180 (ce 222)) (.lf 181 At))))))) (.nd 201 (.nd 191 (.nd 186 (.nd 184 (.nd 183 (.lf 182 At) (.lf 183 co)) (.nd 185 (.lf 184 co) (.lf 185 (ac 187)))) (.nd 189 (.nd 187 (.lf 186 Au) (.lf 187 Au)) (.nd 190 (.lf 189 co) (.lf 190 co)))) (.nd 196 (.nd 193 (.nd 192 (.lf 191 Av) (.lf 192 Av)) (.nd 194 (.lf 193 (ce 256)) (.lf 194 co))) (.nd 198 (.nd 197 (.lf 196 co) (.lf 197 co)) (.nd 199 (.lf 198 co) (.nd 200 (.lf 199 co) (.lf 200 co)))))) (.nd 210 (.nd 205 (.nd 203 (.nd 202 (.lf 201 co) (.lf 202 co)) (.nd 204 (.lf 203 co) (.lf 204 co))) (.nd 207 (.nd 206 (.lf 205 (ac 207)) (.lf 206 Aw)) (.nd 209 (.lf 207 Aw) (.lf 209 co)))) (.nd 214 (.nd 212 (.nd 211 (.lf 210 co) (.lf 211 co)) (.nd 213 (.lf 212 co) (.lf 213 co))) (.nd 216 (.nd 215 (.lf 214 co) (.lf 215 (ac 142))) (.nd 217 (.lf 216 co) (.nd 218 (.lf 217 co) (.lf 218 co)))))))) (.nd 254 (.nd 237 (.nd 227 (.nd 223 (.nd 221 (.nd 220 (.lf 219 Ax) (.lf 220 Ax)) (.nd 222 (.lf 221 jp) (.lf 222 jp))) (.nd 225 (.nd 224 (.lf 223 co) (.lf 224 co)) (.nd 226 (.lf 225 co) (.lf 226 co)))) (.nd 232 (.nd 229 (.nd 228 (.lf 227 (ac 163)) (.lf 228 co)) (.nd 230 (.lf 229 co) (.lf 230 (ac 235)))) (.nd 234 (.nd 233 (.lf 232 co) (.lf 233 (ce 295))) (.nd 235 (.lf 234 Ay) (.nd 236 (.lf 235 Ay) (.lf 236 co)))))) (.nd 245 (.nd 241 (.nd 239 (.nd 238 (.lf 237 co) (.lf 238 co)) (.nd 240 (.lf 239 co) (.lf 240 (ce 306)))) (.nd 243 (.nd 242 (.lf 241 co) (.lf 242 co)) (.nd 244 (.lf 243 (ac 375)) (.lf 244 co)))) (.nd 249 (.nd 247 (.nd 246 (.lf 245 co) (.lf 246 co)) (.nd 248 (.lf 247 co) (.lf 248 co))) (.nd 251 (.nd 250 (.lf 249 co) (.lf 250 co)) (.nd 252 (.lf 251 (ce 252)) (.nd 253 (.lf 252 ⟨.array 2 3,2,16,[.i 0,.i 0],true,true⟩) (.lf 253 co))))))) (.nd 272 (.nd 262 (.nd 258 (.nd 256 (.nd 255 (.lf 254 co) (.lf 255 kw)) (.nd 257 (.lf 256 kw) (.lf 257 co))) (.nd 260 (.nd 259 (.lf 258 co) (.lf 259 co)) (.nd 261 (.lf 260 co) (.lf 261 co)))) (.nd 267 (.nd 265 (.nd 264 (.lf 262 co) (.lf 264 co)) (.nd 266 (.lf 265 co) (.lf 266 co))) (.nd 269 (.nd 268 (.lf 267 (ac 161)) (.lf 268 co)) (.nd 270 (.lf 269 (ac 2)) (.nd 271 (.lf 270 (ac 108)) (.lf 271 (ac 111))))))) (.nd 282 (.nd 278 (.nd 275 (.nd 273 (.lf 272 co) (.lf 273 (ac 21))) (.nd 277 (.lf 275 co) (.lf 277 co))) (.nd 280 (.nd 279 (.lf 278 (ce 349)) (.lf 279 Az)) (.nd 281 (.lf 280 Az) (.lf 281 (ce 243))))) (.nd 286 (.nd 284 (.nd 283 (.lf 282 ⟨.map 3 3,1,8,[.nilm],false,false⟩) (.lf 283 AA)) (.nd 285 (.lf 284 AA) (.lf 285 (ac 289)))) (.nd 288 (.nd 287 (.lf 286 (ce 64)) (.lf 287 (ce 365))) (.nd 289 (.lf 288 AB) (.nd 290 (.lf 289 AB) (.lf 290 co)))))))))) (.nd 437 (.nd 364 (.nd 327 (.nd 308 (.nd 299 (.nd 295 (.nd 293 (.nd 292 (.lf 291 co) (.lf 292 AC)) (.nd 294 (.lf 293 AC) (.lf 294 AD))) (.nd 297 (.nd 296 (.lf 295 AD) (.lf 296 co)) (.nd 298 (.lf 297 co) (.lf 298 co)))) (.nd 304 (.nd 302 (.nd 300 (.lf 299 co) (.lf 300 co)) (.nd 303 (.lf 302 co) (.lf 303 co))) (.nd 306 (.nd 305 (.lf 304 co) (.lf 305 kw)) (.nd 307 (.lf 306 kw) (.lf 307 ⟨.map 3 309,1,8,[.nilm],false,false⟩))))) (.nd 318 (.nd 313 (.nd 311 (.nd 309 (.lf 308 AE) (.lf 309 AE)) (.nd 312 (.lf 311 co) (.lf 312 co))) (.nd 315 (.nd 314 (.lf 313 co) (.lf 314 ⟨.array 256 5,256,256,aU 256 (.b 0),true,true⟩)) (.nd 316 (.lf 315 co) (.lf 316 co)))) (.nd 322 (.nd 320 (.nd 319 (.lf 318 co) (.lf 319 co)) (.nd 321 (.lf 320 co) (.lf 321 co))) (.nd 324 (.nd 323 (.lf 322 co) (.lf 323 co)) (.nd 325 (.lf 324 co) (.nd 326 (.lf 325 co) (.lf 326 (ac 102)))))))) (.nd 346 (.nd 337 (.nd 332 (.nd 329 (.nd 328 (.lf 327 co) (.lf 328 (ac 50))) (.nd 331 (.lf 329 co) (.lf 331 co))) (.nd 335 (.nd 334 (.lf 332 (ce 344)) (.lf 334 co)) (.nd 336 (.lf 335 (ac 342)) (.lf 336 ⟨.map 3 344,1,8,[.nilm],false,false⟩)))) (.nd 341 (.nd 339 (.nd 338 (.lf 337 ⟨.map 9 3,1,8,[.nilm],false,false⟩) (.lf 338 ⟨.map 3 9,1,8,[.nilm],false,false⟩)) (.nd 340 (.lf 339 AF) (.lf 340 AF))) (.nd 343 (.nd 342 (.lf 341 AG) (.lf 342 AG)) (.nd 344 (.lf 343 i7) (.nd 345 (.lf 344 i7) (.lf 345 co)))))) (.nd 355 (.nd 350 (.nd 348 (.nd 347 (.lf 346 co) (.lf 347 (ce 436))) (.nd 349 (.lf 348 AI) (.lf 349 AI))) (.nd 353 (.nd 352 (.lf 350 co) (.lf 352 co)) (.nd 354 (.lf 353 (ac 355)) (.lf 354 AJ)))) (.nd 359 (.nd 357 (.nd 356 (.lf 355 AJ) (.lf 356 (ce 407))) (.nd 358 (.lf 357 co) (.lf 358 co))) (.nd 361 (.nd 360 (.lf 359 co) (.lf 360 co)) (.nd 362 (.lf 361 co) (.nd 363 (.lf 362 co) (.lf 363 co)))))))) (.nd 401 (.nd 383 (.nd 373 (.nd 368 (.nd 366 (.nd 365 (.lf 364 li) (.lf 365 li)) (.nd 367 (.lf 366 co) (.lf 367 (ac 114)))) (.nd 370 (.nd 369 (.lf 368 co) (.lf 369 (ac 64))) (.nd 372 (.lf 370 (ac 399)) (.lf 372 co)))) (.nd 377 (.nd 375 (.nd 374 (.lf 373 (ce 177)) (.lf 374 AK)) (.nd 376 (.lf 375 AK) (.lf 376 co))) (.nd 380 (.nd 378 (.lf 377 co) (.lf 378 co)) (.nd 381 (.lf 380 co) (.nd 382 (.lf 381 co) (.lf 382 AL)))))) (.nd 391 (.nd 387 (.nd 385 (.nd 384 (.lf 383 AL) (.lf 384 co)) (.nd 386 (.lf 385 co) (.lf 386 co))) (.nd 389 (.nd 388 (.lf 387 (ce 389)) (.lf 388 li)) (.nd 390 (.lf 389 li) (.lf 390 co)))) (.nd 395 (.nd 393 (.nd 392 (.lf 391 (ac 421)) (.lf 392 co)) (.nd 394 (.lf 393 co) (.lf 394 (ac 106)))) (.nd 398 (.nd 396 (.lf 395 co) (.lf 396 co)) (.nd 399 (.lf 398 AM) (.nd 400 (.lf 399 AM) (.lf 400 co))))))) (.nd 418 (.nd 409 (.nd 405 (.nd 403 (.nd 402 (.lf 401 co) (.lf 402 co)) (.nd 404 (.lf 403 (ac 340)) (.lf 404 co))) (.nd 407 (.nd 406 (.lf 405 co) (.lf 406 co)) (.nd 408 (.lf 407 ⟨.array 3 3,3,24,[.i 0,.i 0,.i 0],true,true⟩) (.lf 408 co)))) (.nd 413 (.nd 411 (.nd 410 (.lf 409 (ac 67)) (.lf 410 co)) (.nd 412 (.lf 411 co) (.lf 412 co))) (.nd 415 (.nd 414 (.lf 413 co) (.lf 414 co)) (.nd 416 (.lf 415 co) (.nd 417 (.lf 416 co) (.lf 417 co)))))) (.nd 426 (.nd 422 (.nd 420 (.nd 419 (.lf 418 (ce 423)) (.lf 419 (ce 426))) (.nd 421 (.lf 420 AN) (.lf 421 AN))) (.nd 424 (.nd 423 (.lf 422 AO) (.lf 423 AO)) (.nd 425 (.lf 424 co) (.lf 425 AP)))) (.nd 430 (.nd 428 (.nd 427 (.lf 426 AP) (.lf 427 co)) (.nd 429 (.lf 428 co) (.lf 429 (ac 104)))) (.nd 433 (.nd 431 (.lf 430 co) (.lf 431 co)) (.nd 435 (.lf 433 co) (.nd 436 (.lf 435 jp) (.lf 436 jp))))))))) (.nd 514 (.nd 475 (.nd 455 (.nd 446 (.nd 441 (.nd 439 (.nd 438 (.lf 437 co) (.lf 438 co)) (.nd 440 (.lf 439 co) (.lf 440 co))) (.nd 444 (.nd 442 (.lf 441 AQ) (.lf 442 AQ)) (.nd 445 (.lf 444 co) (.lf 445 (ac 447))))) (.nd 450 (.nd 448 (.nd 447 (.lf 446 AR) (.lf 447 AR)) (.nd 449 (.lf 448 co) (.lf 449 (ce 452)))) (.nd 452 (.nd 451 (.lf 450 ⟨.array 2 9,2,32,[.str [],.str []],true,true⟩) (.lf 451 AS)) (.nd 454 (.lf 452 AS) (.lf 454 co))))) (.nd 465 (.nd 459 (.nd 457 (.nd 456 (.lf 455 co) (.lf 456 co)) (.nd 458 (.lf 457 co) (.lf 458 (ce 460)))) (.nd 462 (.nd 460 (.lf 459 AT) (.lf 460 AT)) (.nd 464 (.lf 462 co) (.lf 464 co)))) (.nd 470 (.nd 467 (.nd 466 (.lf 465 co) (.lf 466 co)) (.nd 469 (.lf 467 ⟨.map 64 4,1,8,[.nilm],false,false⟩) (.lf 469 co))) (.nd 472 (.nd 471 (.lf 470 co) (.lf 471 co)) (.nd 473 (.lf 472 (ac 423)) (.nd 474 (.lf 473 (ac 426)) (.lf 474 co))))))) (.nd 495 (.nd 485 (.nd 480 (.nd 478 (.nd 476 (.lf 475 ⟨.array 24 5,24,24,aU 24 (.b 0),true,true⟩) (.lf 476 co)) (.nd 479 (.lf 478 co) (.lf 479 co))) (.nd 483 (.nd 481 (.lf 480 co) (.lf 481 (ac 349))) (.nd 484 (.lf 483 co) (.lf 484 (ac 442))))) (.nd 489 (.nd 487 (.nd 486 (.lf 485 co) (.lf 486 (ac 488))) (.nd 488 (.lf 487 AU) (.lf 488 AU))) (.nd 491 (.nd 490 (.lf 489 co) (.lf 490 (ce 537))) (.nd 492 (.lf 491 AW) (.nd 494 (.lf 492 AW) (.lf 494 co)))))) (.nd 505 (.nd 501 (.nd 498 (.nd 496 (.lf 495 co) (.lf 496 co)) (.nd 499 (.lf 498 co) (.lf 499 co))) (.nd 503 (.nd 502 (.lf 501 co) (.lf 502 co)) (.nd 504 (.lf 503 ⟨.array 20 64,20,160,aU 20 (.u 0),true,true⟩) (.lf 504 ⟨.array 65 5,65,65,aU 65 (.b 0),true,true⟩)))) (.nd 509 (.nd 507 (.nd 506 (.lf 505 co) (.lf 506 co)) (.nd 508 (.lf 507 co) (.lf 508 co))) (.nd 511 (.nd 510 (.lf 509 (ac 511)) (.lf 510 AX)) (.nd 512 (.lf 511 AX) (.nd 513 (.lf 512 co) (.lf 513 (ce 293))))))))) (.nd 550 (.nd 532 (.nd 523 (.nd 518 (.nd 516 (.nd 515 (.lf 514 co) (.lf 515 co)) (.nd 517 (.lf 516 co) (.lf 517 co))) (.nd 521 (.nd 520 (.lf 518 co) (.lf 520 co)) (.nd 522 (.lf 521 co) (.lf 522 co)))) (.nd 527 (.nd 525 (.nd 524 (.lf 523 co) (.lf 524 co)) (.nd 526 (.lf 525 ⟨.map 3 4,1,8,[.nilm],false,false⟩) (.lf 526 co))) (.nd 529 (.nd 528 (.lf 527 co) (.lf 528 co)) (.nd 530 (.lf 529 co) (.nd 531 (.lf 530 (ac 3)) (.lf 531 co)))))) (.nd 540 (.nd 536 (.nd 534 (.nd 533 (.lf 532 AY) (.lf 533 AY)) (.nd 535 (.lf 534 ⟨.array 2 293,8,64,[.u 0,.u 0,.u 0,.u 0,.u 0,.u 0,.u 0,.u 0],true,true⟩) (.lf 535 co))) (.nd 538 (.nd 537 (.lf 536 ⟨.map 293 4,1,8,[.nilm],false,false⟩) (.lf 537 (ce 533))) (.nd 539 (.lf 538 co) (.lf 539 co)))) (.nd 545 (.nd 542 (.nd 541 (.lf 540 co) (.lf 541 ⟨.map 9 5,1,8,[.nilm],false,false⟩)) (.nd 543 (.lf 542 ⟨.array 32 5,32,32,aU 32 (.b 0),true,true⟩) (.lf 543 ⟨.array 64 5,64,64,aU 64 (.b 0),true,true⟩))) (.nd 547 (.nd 546 (.lf 545 co) (.lf 546 co)) (.nd 548 (.lf 547 co) (.nd 549 (.lf 548 co) (.lf 549 co))))))) (.nd 568 (.nd 559 (.nd 554 (.nd 552 (.nd 551 (.lf 550 co) (.lf 551 co)) (.nd 553 (.lf 552 co) (.lf 553 co))) (.nd 557 (.nd 556 (.lf 554 ii) (.lf 556 co)) (.nd 558 (.lf 557 co) (.lf 558 co)))) (.nd 563 (.nd 561 (.nd 560 (.lf 559 co) (.lf 560 i6)) (.nd 562 (.lf 561 co) (.lf 562 co))) (.nd 565 (.nd 564 (.lf 563 co) (.lf 564 (ac 560))) (.nd 566 (.lf 565 co) (.nd 567 (.lf 566 AZ) (.lf 567 AZ)))))) (.nd 576 (.nd 572 (.nd 570 (.nd 569 (.lf 568 ⟨.array 0 16,0,0,[],true,false⟩) (.lf 569 A3)) (.nd 571 (.lf 570 A3) (.lf 571 io))) (.nd 574 (.nd 573 (.lf 572 io) (.lf 573 co)) (.nd 575 (.lf 574 (ac 5)) (.lf 575 md)))) (.nd 580 (.nd 578 (.nd 577 (.lf 576 md) (.lf 577 A4)) (.nd 579 (.lf 578 A4) (.lf 579 co))) (.nd 582 (.nd 581 (.lf 580 co) (.lf 581 co)) (.nd 583 (.lf 582 co) (.nd 584 (.lf 583 A5) (.lf 584 A5)))))))))))
noncomputable def fnT:BT Func:=(.nd 220 (.nd 110 (.nd 55 (.nd 27 (.nd 13 (.nd 6 (.nd 3 (.nd 1 (.lf 0 Tryz.f0) (.nd 2 (.lf 1 Tryz.f1) (.lf 2 Tryz.f2))) (.nd 4 (.lf 3 Tryz.f3) (.nd 5 (.lf 4 Tryz.f4) (.lf 5 Tryz.f5)))) (.nd 9 (.nd 7 (.lf 6 Tryz.f6) (.nd 8 (.lf 7 Tryz.f7) (.lf 8 Tryz.f8))) (.nd 11 (.nd 10 (.lf 9 Tryz.f9) (.lf 10 Tryz.f10)) (.nd 12 (.lf 11 Tryz.f11) (.lf 12 Tryz.f12))))) (.nd 20 (.nd 16 (.nd 14 (.lf 13 Tryz.f13) (.nd 15 (.lf 14 Tryz.f14) (.lf 15 Tryz.f15))) (.nd 18 (.nd 17 (.lf 16 Tryz.f16) (.lf 17 Tryz.f17)) (.nd 19 (.lf 18 Tryz.f18) (.lf 19 Tryz.f19)))) (.nd 23 (.nd 21 (.lf 20 Tryz.f20) (.nd 22 (.lf 21 Tryz.f21) (.lf 22 Tryz.f22))) (.nd 25 (.nd 24 (.lf 23 Tryz.f23) (.lf 24 Tryz.f24)) (.nd 26 (.lf 25 Tryz.f25) (.lf 26 Tryz.f26)))))) (.nd 41 (.nd 34 (.nd 30 (.nd 28 (.lf 27 Tryz.f27) (.nd 29 (.lf 28 Tryz.f28) (.lf 29 Tryz.f29))) (.nd 32 (.nd 31 (.lf 30 Tryz.f30) (.lf 31 Tryz.f31)) (.nd 33 (.lf 32 Tryz.f32) (.lf 33 Tryz.f33)))) (.nd 37 (.nd 35 (.lf 34 Tryz.f34) (.nd 36 (.lf 35 Tryz.f35) (.lf 36 Tryz.f36))) (.nd 39 (.nd 38 (.lf 37 Tryz.f37) (.lf 38 Tryz.f38)) (.nd 40 (.lf 39 Tryz.f39) (.lf 40 Tryz.f40))))) (.nd 48 (.nd 44 (.nd 42 (.lf 41 Tryz.f41) (.nd 43 (.lf 42 Tryz.f42) (.lf 43 Tryz.f43))) (.nd 46 (.nd 45 (.lf 44 Tryz.f44) (.lf 45 Tryz.f45)) (.nd 47 (.lf 46 Tryz.f46) (.lf 47 Tryz.f47)))) (.nd 51 (.nd 49 (.lf 48 Tryz.f48) (.nd 50 (.lf 49 Tryz.f49) (.lf 50 Tryz.f50))) (.nd 53 (.nd 52 (.lf 51 Tryz.f51) (.lf 52 Tryz.f52)) (.nd 54 (.lf 53 Tryz.f53) (.lf 54 Tryz.f54))))))) (.nd 82 (.nd 68 (.nd 61 (.nd 58 (.nd 56 (.lf 55 Tryz.f55) (.nd 57 (.lf 56 Tryz.f56) (.lf 57 Tryz.f57))) (.nd 59 (.lf 58 Tryz.f58) (.nd 60 (.lf 59 Tryz.f59) (.lf 60 Tryz.f60)))) (.nd 64 (.nd 62 (.lf 61 Tryz.f61) (.nd 63 (.lf 62 Tryz.f62) (.lf 63 Tryz.f63))) (.nd 66 (.nd 65 (.lf 64 Tryz.f64) (.lf 65 Tryz.f65)) (.nd 67 (.lf 66 Tryz.f66) (.lf 67 Tryz.f67))))) (.nd 75 (.nd 71 (.nd 69 (.lf 68 Tryz.f68) (.nd 70 (.lf 69 Tryz.f69) (.lf 70 Tryz.f70))) (.nd 73 (.nd 72 (.lf 71 Tryz.f71) (.lf 72 Tryz.f72)) (.nd 74 (.lf 73 Tryz.f73) (.lf 74 Tryz.f74)))) (.nd 78 (.nd 76 (.lf 75 Tryz.f75) (.nd 77 (.lf 76 Tryz.f76) (.lf 77 Tryz.f77))) (.nd 80 (.nd 79 (.lf 78 Tryz.f78) (.lf 79 Tryz.f79)) (.nd 81 (.lf 80 Tryz.f80) (.lf 81 Tryz.f81)))))) (.nd 96 (.nd 89 (.nd 85 (.nd 83 (.lf 82 Tryz.f82) (.nd 84 (.lf 83 Tryz.f83) (.lf 84 Tryz.f84))) (.nd 87 (.nd 86 (.lf 85 Tryz.f85) (.lf 86 Tryz.f86)) (.nd 88 (.lf 87 Tryz.f87) (.lf 88 Tryz.f88)))) (.nd 92 (.nd 90 (.lf 89 Tryz.f89) (.nd 91 (.lf 90 Tryz.f90) (.lf 91 Tryz.f91))) (.nd 94 (.nd 93 (.lf 92 Tryz.f92) (.lf 93 Tryz.f93)) (.nd 95 (.lf 94 Tryz.f94) (.lf 95 Tryz.f95))))) (.nd 103 (.nd 99 (.nd 97 (.lf 96 Tryz.f96) (.nd 98 (.lf 97 Tryz.f97) (.lf 98 Tryz.f98))) (.nd 101 (.nd 100 (.lf 99 Tryz.f99) (.lf 100 Tryz.f100)) (.nd 102 (.lf 101 Tryz.f101) (.lf 102 Tryz.f102)))) (.nd 106 (.nd 104 (.lf 103 Tryz.f103) (.nd 105 (.lf 104 Tryz.f104) (.lf 105 Tryz.f105))) (.nd 108 (.nd 107 (.lf 106 Tryz.f106) (.lf 107 Tryz.f107)) (.nd 109 (.lf 108 Tryz.f108) (.lf 109 Tryz.f109)))))))) (.nd 165 (.nd 137 (.nd 123 (.nd 116 (.nd 113 (.nd 111 (.lf 110 Tryz.f110) (.nd 112 (.lf 111 Tryz.f111) (.lf 112 Tryz.f112))) (.nd 114 (.lf 113 Tryz.f113) (.nd 115 (.lf 114 Tryz.f114) (.lf 115 Tryz.f115)))) (.nd 119 (.nd 117 (.lf 116 Tryz.f116) (.nd 118 (.lf 117 Tryz.f117) (.lf 118 Tryz.f118))) (.nd 121 (.nd 120 (.lf 119 Tryz.f119) (.lf 120 Tryz.f120)) (.nd 122 (.lf 121 Tryz.f121) (.lf 122 Tryz.f122))))) (.nd 130 (.nd 126 (.nd 124 (.lf 123 Tryz.f123) (.nd 125 (.lf 124 Tryz.f124) (.lf 125 Tryz.f125))) (.nd 128 (.nd 127 (.lf 126 Tryz.f126) (.lf 127 Tryz.f127)) (.nd 129 (.lf 128 Tryz.f128) (.lf 129 Tryz.f129)))) (.nd 133 (.nd 131 (.lf 130 Tryz.f130) (.nd 132 (.lf 131 Tryz.f131) (.lf 132 Tryz.f132))) (.nd 135 (.nd 134 (.lf 133 Tryz.f133) (.lf 134 Tryz.f134)) (.nd 136 (.lf 135 Tryz.f135) (.lf 136 Tryz.f136)))))) (.nd 151 (.nd 144 (.nd 140 (.nd 138 (.lf 137 Tryz.f137) (.nd 139 (.lf 138 Tryz.f138) (.lf 139 Tryz.f139))) (.nd 142 (.nd 141 (.lf 140 Tryz.f140) (.lf 141 Tryz.f141)) (.nd 143 (.lf 142 Tryz.f142) (.lf 143 Tryz.f143)))) (.nd 147 (.nd 145 (.lf 144 Tryz.f144) (.nd 146 (.lf 145 Tryz.f145) (.lf 146 Tryz.f146))) (.nd 149 (.nd 148 (.lf 147 Tryz.f147) (.lf 148 Tryz.f148)) (.nd 150 (.lf 149 Tryz.f149) (.lf 150 Tryz.f150))))) (.nd 158 (.nd 154 (.nd 152 (.lf 151 Tryz.f151) (.nd 153 (.lf 152 Tryz.f152) (.lf 153 Tryz.f153))) (.nd 156 (.nd 155 (.lf 154 Tryz.f154) (.lf 155 Tryz.f155)) (.nd 157 (.lf 156 Tryz.f156) (.lf 157 Tryz.f157)))) (.nd 161 (.nd 159 (.lf 158 Tryz.f158) (.nd 160 (.lf 159 Tryz.f159) (.lf 160 Tryz.f160))) (.nd 163 (.nd 162 (.lf 161 Tryz.f161) (.lf 162 Tryz.f162)) (.nd 164 (.lf 163 Tryz.f163) (.lf 164 Tryz.f164))))))) (.nd 192 (.nd 178 (.nd 171 (.nd 168 (.nd 166 (.lf 165 Tryz.f165) (.nd 167 (.lf 166 Tryz.f166) (.lf 167 Tryz.f167))) (.nd 169 (.lf 168 Tryz.f168) (.nd 170 (.lf 169 Tryz.f169) (.lf 170 Tryz.f170)))) (.nd 174 (.nd 172 (.lf 171 Tryz.f171) (.nd 173 (.lf 172 Tryz.f172) (.lf 173 Tryz.f173))) (.nd 176 (.nd 175 (.lf 174 Tryz.f174) (.lf 175 Tryz.f175)) (.nd 177 (.lf 176 Tryz.f176) (.lf 177 Tryz.f177))))) (.nd 185 (.nd 181 (.nd 179 (.lf 178 Tryz.f178) (.nd 180 (.lf 179 Tryz.f179) (.lf 180 Tryz.f180))) (.nd 183 (.nd 182 (.lf 181 Tryz.f181) (.lf 182 Tryz.f182)) (.nd 184 (.lf 183 Tryz.f183) (.lf 184 Tryz.f184)))) (.nd 188 (.nd 186 (.lf 185 Tryz.f185) (.nd 187 (.lf 186 Tryz.f186) (.lf 187 Tryz.f187))) (.nd 190 (.nd 189 (.lf 188 Tryz.f188) (.lf 189 Tryz.f189)) (.nd 191 (.lf 190 Tryz.f190) (.lf 191 Tryz.f191)))))) (.nd 206 (.nd 199 (.nd 195 (.nd 193 (.lf 192 Tryz.f192) (.nd 194 (.lf 193 Tryz.f193) (.lf 194 Tryz.f194))) (.nd 197 (.nd 196 (.lf 195 Tryz.f195) (.lf 196 Tryz.f196)) (.nd 198 (.lf 197 Tryz.f197) (.lf 198 Tryz.f198)))) (.nd 202 (.nd 200 (.lf 199 Tryz.f199) (.nd 201 (.lf 200 Tryz.f200) (.lf 201 Tryz.f201))) (.nd 204 (.nd 203 (.lf 202 Tryz.f202) (.lf 203 Tryz.f203)) (.nd 205 (.lf 204 Tryz.f204) (.lf 205 Tryz.f205))))) (.nd 213 (.nd 209 (.nd 207 (.lf 206 Tryz.f206) (.nd 208 (.lf 207 Tryz.f207) (.lf 208 Tryz.f208))) (.nd 211 (.nd 210 (.lf 209 Tryz.f209) (.lf 210 Tryz.f210)) (.nd 212 (.lf 211 Tryz.f211) (.lf 212 Tryz.f212)))) (.nd 216 (.nd 214 (.lf 213 Tryz.f213) (.nd 215 (.lf 214 Tryz.f214) (.lf 215 Tryz.f215))) (.nd 218 (.nd 217 (.lf 216 Tryz.f216) (.lf 217 Tryz.f217)) (.nd 219 (.lf 218 Tryz.f218) (.lf 219 Tryz.f219))))))))) (.nd 330 (.nd 275 (.nd 247 (.nd 233 (.nd 226 (.nd 223 (.nd 221 (.lf 220 Tryz.f220) (.nd 222 (.lf 221 Tryz.f221) (.lf 222 Tryz.f222))) (.nd 224 (.lf 223 Tryz.f223) (.nd 225 (.lf 224 Tryz.f224) (.lf 225 Tryz.f225)))) (.nd 229 (.nd 227 (.lf 226 Tryz.f226) (.nd 228 (.lf 227 Tryz.f227) (.lf 228 Tryz.f228))) (.nd 231 (.nd 230 (.lf 229 Tryz.f229) (.lf 230 Tryz.f230)) (.nd 232 (.lf 231 Tryz.f231) (.lf 232 Tryz.f232))))) (.nd 240 (.nd 236 (.nd 234 (.lf 233 Tryz.f233) (.nd 235 (.lf 234 Tryz.f234) (.lf 235 Tryz.f235))) (.nd 238 (.nd 237 (.lf 236 Tryz.f236) (.lf 237 Tryz.f237)) (.nd 239 (.lf 238 Tryz.f238) (.lf 239 Tryz.f239)))) (.nd 243 (.nd 241 (.lf 240 Tryz.f240) (.nd 242 (.lf 241 Tryz.f241) (.lf 242 Tryz.f242))) (.nd 245 (.nd 244 (.lf 243 Tryz.f243) (.lf 244 Tryz.f244)) (.nd 246 (.lf 245 Tryz.f245) (.lf 246 Tryz.f246)))))) (.nd 261 (.nd 254 (.nd 250 (.nd 248 (.lf 247 Tryz.f247) (.nd 249 (.lf 248 Tryz.f248) (.lf 249 Tryz.f249))) (.nd 252 (.nd 251 (.lf 250 Tryz.f250) (.lf 251 Tryz.f251)) (.nd 253 (.lf 252 Tryz.f252) (.lf 253 Tryz.f253)))) (.nd 257 (.nd 255 (.lf 254 Tryz.f254) (.nd 256 (.lf 255 Tryz.f255) (.lf 256 Tryz.f256))) (.nd 259 (.nd 258 (.lf 257 Tryz.f257) (.lf 258 Tryz.f258)) (.nd 260 (.lf 259 Tryz.f259) (.lf 260 Tryz.f260))))) (.nd 268 (.nd 264 (.nd 262 (.lf 261 Tryz.f261) (.nd 263 (.lf 262 Tryz.f262) (.lf 263 Tryz.f263))) (.nd 266 (.nd 265 (.lf 264 Tryz.f264) (.lf 265 Tryz.f265)) (.nd 267 (.lf 266 Tryz.f266) (.lf 267 Tryz.f267)))) (.nd 271 (.nd 269 (.lf 268 Tryz.f268) (.nd 270 (.lf 269 Tryz.f269) (.lf 270 Tryz.f270))) (.nd 273 (.nd 272 (.lf 271 Tryz.f271) (.lf 272 Tryz.f272)) (.nd 274 (.lf 273 Tryz.f273) (.lf 274 Tryz.f274))))))) (.nd 302 (.nd 288 (.nd 281 (.nd 278 (.nd 276 (.lf 275 Tryz.f275) (.nd 277 (.lf 276 Tryz.f276) (.lf 277 Tryz.f277))) (.nd 279 (.lf 278 Tryz.f278) (.nd 280 (.lf 279 Tryz.f279) (.lf 280 Tryz.f280)))) (.nd 284 (.nd 282 (.lf 281 Tryz.f281) (.nd 283 (.lf 282 Tryz.f282) (.lf 283 Tryz.f283))) (.nd 286 (.nd 285 (.lf 284 Tryz.f284) (.lf 285 Tryz.f285)) (.nd 287 (.lf 286 Tryz.f286) (.lf 287 Tryz.f287))))) (.nd 295 (.nd 291 (.nd 289 (.lf 288 Tryz.f288) (.nd 290 (.lf 289 Tryz.f289) (.lf 290 Tryz.f290))) (.nd 293 (.nd 292 (.lf 291 Tryz.f291) (.lf 292 Tryz.f292)) (.nd 294 (.lf 293 Tryz.f293) (.lf 294 Tryz.f294)))) (.nd 298 (.nd 296 (.lf 295 Tryz.f295) (.nd 297 (.lf 296 Tryz.f296) (.lf 297 Tryz.f297))) (.nd 300 (.nd 299 (.lf 298 Tryz.f298) (.lf 299 Tryz.f299)) (.nd 301 (.lf 300 Tryz.f300) (.lf 301 Tryz.f301)))))) (.nd 316 (.nd 309 (.nd 305 (.nd 303 (.lf 302 Tryz.f302) (.nd 304 (.lf 303 Tryz.f303) (.lf 304 Tryz.f304))) (.nd 307 (.nd 306 (.lf 305 Tryz.f305) (.lf 306 Tryz.f306)) (.nd 308 (.lf 307 Tryz.f307) (.lf 308 Tryz.f308)))) (.nd 312 (.nd 310 (.lf 309 Tryz.f309) (.nd 311 (.lf 310 Tryz.f310) (.lf 311 Tryz.f311))) (.nd 314 (.nd 313 (.lf 312 Tryz.f312) (.lf 313 Tryz.f313)) (.nd 315 (.lf 314 Tryz.f314) (.lf 315 Tryz.f315))))) (.nd 323 (.nd 319 (.nd 317 (.lf 316 Tryz.f316) (.nd 318 (.lf 317 Tryz.f317) (.lf 318 Tryz.f318))) (.nd 321 (.nd 320 (.lf 319 Tryz.f319) (.lf 320 Tryz.f320)) (.nd 322 (.lf 321 Tryz.f321) (.lf 322 Tryz.f322)))) (.nd 326 (.nd 324 (.lf 323 Tryz.f323) (.nd 325 (.lf 324 Tryz.f324) (.lf 325 Tryz.f325))) (.nd 328 (.nd 327 (.lf 326 Tryz.f326) (.lf 327 Tryz.f327)) (.nd 329 (.lf 328 Tryz.f328) (.lf 329 Tryz.f329)))))))) (.nd 385 (.nd 357 (.nd 343 (.nd 336 (.nd 333 (.nd 331 (.lf 330 Tryz.f330) (.nd 332 (.lf 331 Tryz.f331) (.lf 332 Tryz.f332))) (.nd 334 (.lf 333 Tryz.f333) (.nd 335 (.lf 334 Tryz.f334) (.lf 335 Tryz.f335)))) (.nd 339 (.nd 337 (.lf 336 Tryz.f336) (.nd 338 (.lf 337 Tryz.f337) (.lf 338 Tryz.f338))) (.nd 341 (.nd 340 (.lf 339 Tryz.f339) (.lf 340 Tryz.f340)) (.nd 342 (.lf 341 Tryz.f341) (.lf 342 Tryz.f342))))) (.nd 350 (.nd 346 (.nd 344 (.lf 343 Tryz.f343) (.nd 345 (.lf 344 Tryz.f344) (.lf 345 Tryz.f345))) (.nd 348 (.nd 347 (.lf 346 Tryz.f346) (.lf 347 Tryz.f347)) (.nd 349 (.lf 348 Tryz.f348) (.lf 349 Tryz.f349)))) (.nd 353 (.nd 351 (.lf 350 Tryz.f350) (.nd 352 (.lf 351 Tryz.f351) (.lf 352 Tryz.f352))) (.nd 355 (.nd 354 (.lf 353 Tryz.f353) (.lf 354 Tryz.f354)) (.nd 356 (.lf 355 Tryz.f355) (.lf 356 Tryz.f356)))))) (.nd 371 (.nd 364 (.nd 360 (.nd 358 (.lf 357 Tryz.f357) (.nd 359 (.lf 358 Tryz.f358) (.lf 359 Tryz.f359))) (.nd 362 (.nd 361 (.lf 360 Tryz.f360) (.lf 361 Tryz.f361)) (.nd 363 (.lf 362 Tryz.f362) (.lf 363 Tryz.f363)))) (.nd 367 (.nd 365 (.lf 364 Tryz.f364) (.nd 366 (.lf 365 Tryz.f365) (.lf 366 Tryz.f366))) (.nd 369 (.nd 368 (.lf 367 Tryz.f367) (.lf 368 Tryz.f368)) (.nd 370 (.lf 369 Tryz.f369) (.lf 370 Tryz.f370))))) (.nd 378 (.nd 374 (.nd 372 (.lf 371 Tryz.f371) (.nd 373 (.lf 372 Tryz.f372) (.lf 373 Tryz.f373))) (.nd 376 (.nd 375 (.lf 374 Tryz.f374) (.lf 375 Tryz.f375)) (.nd 377 (.lf 376 Tryz.f376) (.lf 377 Tryz.f377)))) (.nd 381 (.nd 379 (.lf 378 Tryz.f378) (.nd 380 (.lf 379 Tryz.f379) (.lf 380 Tryz.f380))) (.nd 383 (.nd 382 (.lf 381 Tryz.f381) (.lf 382 Tryz.f382)) (.nd 384 (.lf 383 Tryz.f383) (.lf 384 Tryz.f384))))))) (.nd 413 (.nd 399 (.nd 392 (.nd 388 (.nd 386 (.lf 385 Tryz.f385) (.nd 387 (.lf 386 Tryz.f386) (.lf 387 Tryz.f387))) (.nd 390 (.nd 389 (.lf 388 Tryz.f388) (.lf 389 Tryz.f389)) (.nd 391 (.lf 390 Tryz.f390) (.lf 391 Tryz.f391)))) (.nd 395 (.nd 393 (.lf 392 Tryz.f392) (.nd 394 (.lf 393 Tryz.f393) (.lf 394 Tryz.f394))) (.nd 397 (.nd 396 (.lf 395 Tryz.f395) (.lf 396 Tryz.f396)) (.nd 398 (.lf 397 Tryz.f397) (.lf 398 Tryz.f398))))) (.nd 406 (.nd 402 (.nd 400 (.lf 399 Tryz.f399) (.nd 401 (.lf 400 Tryz.f400) (.lf 401 Tryz.f401))) (.nd 404 (.nd 403 (.lf 402 Tryz.f402) (.lf 403 Tryz.f403)) (.nd 405 (.lf 404 Tryz.f404) (.lf 405 Tryz.f405)))) (.nd 409 (.nd 407 (.lf 406 Tryz.f406) (.nd 408 (.lf 407 Tryz.f407) (.lf 408 Tryz.f408))) (.nd 411 (.nd 410 (.lf 409 Tryz.f409) (.lf 410 Tryz.f410)) (.nd 412 (.lf 411 Tryz.f411) (.lf 412 Tryz.f412)))))) (.nd 427 (.nd 420 (.nd 416 (.nd 414 (.lf 413 Tryz.f413) (.nd 415 (.lf 414 Tryz.f414) (.lf 415 Tryz.f415))) (.nd 418 (.nd 417 (.lf 416 Tryz.f416) (.lf 417 Tryz.f417)) (.nd 419 (.lf 418 Tryz.f418) (.lf 419 Tryz.f419)))) (.nd 423 (.nd 421 (.lf 420 Tryz.f420) (.nd 422 (.lf 421 Tryz.f421) (.lf 422 Tryz.f422))) (.nd 425 (.nd 424 (.lf 423 Tryz.f423) (.lf 424 Tryz.f424)) (.nd 426 (.lf 425 Tryz.f425) (.lf 426 Tryz.f426))))) (.nd 434 (.nd 430 (.nd 428 (.lf 427 Tryz.f427) (.nd 429 (.lf 428 Tryz.f428) (.lf 429 Tryz.f429))) (.nd 432 (.nd 431 (.lf 430 Tryz.f430) (.lf 431 Tryz.f431)) (.nd 433 (.lf 432 Tryz.f432) (.lf 433 Tryz.f433)))) (.nd 437 (.nd 435 (.lf 434 Tryz.f434) (.nd 436 (.lf 435 Tryz.f435) (.lf 436 Tryz.f436))) (.nd 439 (.nd 438 (.lf 437 Tryz.f437) (.lf 438 Tryz.f438)) (.nd 440 (.lf 439 Tryz.f439) (.lf 440 Tryz.f440))))))))))
end
section
open Go.Shelf
def aiQ:Go.Shelf.Ren:=⟨fun|219=>260|217=>300|225=>301|224=>302|267=>303|266=>331|314=>332|n=>n,fun|9=>9|3=>3|4=>4|5=>5|46=>136|146=>500|51=>50|n=>n,fun|1=>2|n=>n⟩
theorem axl:Go.Proofs.Lays.n219 Tryz.prog aiQ:={
 mixed:=by kernel_rfl
 f217:=Tryz.func300.trans (congrArg some (by kernel_rfl))
 f219:=Tryz.func260.trans (congrArg some (by kernel_rfl))
 f224:=Tryz.func302.trans (congrArg some (by kernel_rfl))
 f225:=Tryz.func301.trans (congrArg some (by kernel_rfl))
 f266:=Tryz.func331.trans (congrArg some (by kernel_rfl))
 f267:=Tryz.func303.trans (congrArg some (by kernel_rfl))
 f314:=Tryz.func332.trans (congrArg some (by kernel_rfl))
 t3:=Tryz.underlying3
 a3:=Tryz.isAgg3
 z3:=Tryz.sizeOf3
 v3:=Tryz.zeroValue3
 t4:=Tryz.underlying4
 a4:=Tryz.isAgg4
 z4:=Tryz.sizeOf4
 v4:=Tryz.zeroValue4
 t5:=Tryz.underlying5
 a5:=Tryz.isAgg5
 z5:=Tryz.sizeOf5
 v5:=Tryz.zeroValue5
 t9:=Tryz.underlying9
 a9:=Tryz.isAgg9
 z9:=Tryz.sizeOf9
 v9:=Tryz.zeroValue9
 t46:=Tryz.underlying136
 a46:=Tryz.isAgg136
 z46:=Tryz.sizeOf136
 v46:=Tryz.zeroValue136
 t51:=Tryz.underlying50
 a51:=Tryz.isAgg50
 z51:=Tryz.sizeOf50
 v51:=Tryz.zeroValue50
 t146:=Tryz.underlying500
 a146:=Tryz.isAgg500
 z146:=Tryz.sizeOf500
 v146:=Tryz.zeroValue500
 g1:=by kernel_rfl}
end
noncomputable section
def preB (p l:List Nat):Bool:=List.rec (motive:=fun _=>List Nat→Bool) (fun _=>true) (fun a _ ih l=>List.rec (motive:=fun _=>Bool) false (fun b r _=>bq (Nat.beq a b) (ih r) false) l) p l
def aca (p l:List Nat):Nat→Int:=List.rec (motive:=fun _=>Nat→Int) (fun i=>bq (preB p []) (.ofNat i) (.negSucc 0)) (fun a r ih i=>bq (preB p (a::r)) (.ofNat i) (ih (Nat.succ i))) l
def amP (args:List AV) (h:AH):Option (AV×AH):=
 match args with
 |[.str s,.str p]=>bq (Nat.ble (ag s) 4294967280) (some (.int 9223372036854775807 (aca p s 0),h)) none
 |_=>none
def ascZ:List Int:=(List.range 256).map fun c=>if [9,10,11,12,13,32].contains c then 1 else 0
def auU:List AV:=ascZ.map fun n=>.int 255 n
def gl0 (mx:Int) (g:Nat):Option (List AV):=bq (Nat.beq g 0) (some auU) (bq (Nat.beq g 2) (some [.int 9223372036854775807 mx]) none)
def avF (f:Nat):Option (List AV→AH→Option (AV×AH)):=bq (Nat.beq f 297) (some (fun args h=>au (avQ args) fun v=>some (v,h))) (bq (Nat.beq f 331) (some (fun args h=>au (alC args) fun v=>some (v,h))) (bq (Nat.beq f 204) (some (nH 18446744073709551615)) (bq (Nat.beq f 130) (some (nH 9223372036854775807)) (bq (Nat.beq f 133) (some (nH 2147483647)) (bq (Nat.beq f 263) (some (adj 2147483647)) (bq (Nat.beq f 178) (some (pP 4294967295)) (bq (Nat.beq f 222) (some (vB 4294967295)) (none))))))))
def orc0 (f:Nat):Option (Run→List AV→AH→Option (AV×AH)):=bq (Nat.beq f 260) (some (fun _=>amP)) (bq (Nat.beq f 132) (some akc) (none))
def fzL:List Nat:=[19,46,117,56,182,183,134,32,15,14,91,205,325,288,286,33]
def trL:List Nat:=[74,77,167,49,60,36,193,235,33,16,34,141,243,280,89,137,31,26,188,135,285,227,61,59,157,211,350,369,346,357,355,327,352,370,326,290,292,325]
def memN (f:Nat) (l:List Nat):Bool:=List.rec (motive:=fun _=>Bool) false (fun a _ ih=>bq (Nat.beq f a) true ih) l
def C0 (mx:Int):Cx:={ty:=tv tyT,fn:=tv fnT,gl:=gl0 mx,orc:=orc0,ext:=avF,rD:=fun _ _=>none,sq:=fun _=>none,fz:=fun f=>memN f fzL,tr:=fun f=>memN f trL}
end
set_option maxRecDepth 100000 in
theorem axA:xK (fun t ti=>and (aeJ Tryz.prog t ti) (aeK Tryz.prog t ti)) tyT=true:=by decide+kernel
def fnP (f : Nat) (fn : Func) : Prop := Tryz.prog.funcs[f]? = some fn ∧ (fn.name == "runtime.NumGoroutine") = false
set_option maxRecDepth 100000 in
theorem axv:jL fnP fnT:=by
 unfold fnT
 repeat' (first|exact Du (by kernel_rfl) (by kernel_rfl)|refine Du ?_ ?_)
theorem row0:iF Tryz.prog 297 add64Entry:=⟨_,Tryz.func297,by kernel_rfl,by kernel_rfl,by kernel_rfl,by kernel_rfl⟩
theorem row1:iF Tryz.prog 331 Extern.BytealgIndexByte.indexByte:=⟨_,Tryz.func331,by kernel_rfl,by kernel_rfl,by kernel_rfl,by kernel_rfl⟩
theorem row2:iF Tryz.prog 204 (Extern.Atomic.update (Op.intArith .add) .u64 true):=⟨_,Tryz.func204,by kernel_rfl,by kernel_rfl,by kernel_rfl,by kernel_rfl⟩
theorem row3:iF Tryz.prog 130 (Extern.Atomic.update (Op.intArith .add) .i64 true):=⟨_,Tryz.func130,by kernel_rfl,by kernel_rfl,by kernel_rfl,by kernel_rfl⟩
theorem row4:iF Tryz.prog 133 (Extern.Atomic.update (Op.intArith .add) .i32 true):=⟨_,Tryz.func133,by kernel_rfl,by kernel_rfl,by kernel_rfl,by kernel_rfl⟩
theorem row5:iF Tryz.prog 263 (Extern.Atomic.casT (.int .i32)):=⟨_,Tryz.func263,by kernel_rfl,by kernel_rfl,by kernel_rfl,by kernel_rfl⟩
theorem row6:iF Tryz.prog 178 (Extern.Atomic.loadT (.int .u32)):=⟨_,Tryz.func178,by kernel_rfl,by kernel_rfl,by kernel_rfl,by kernel_rfl⟩
theorem row7:iF Tryz.prog 222 Extern.Atomic.storeT:=⟨_,Tryz.func222,by kernel_rfl,by kernel_rfl,by kernel_rfl,by kernel_rfl⟩
theorem avS {mx:Int}: ∀f g,(C0 mx).ext f=some g→ ∀args h v h',g args h=some (v,h')→ ∀ok w ρ us,Inv (C0 mx) ok w ρ h→VL ok w args ρ us→ ∃u w' ok' ρ',(callFunc f us.toArray).run Tryz.prog w= .ok (.value u) w'∧Ext ok w ρ h ok' w' ρ' h'∧Inv (C0 mx) ok' w' ρ' h'∧V ok' w' v ρ' u:=by
 intro f g e;have e:bq (Nat.beq f 297) _ (bq (Nat.beq f 331) _ (bq (Nat.beq f 204) _ (bq (Nat.beq f 130) _ (bq (Nat.beq f 133) _ (bq (Nat.beq f 263) _ (bq (Nat.beq f 178) _ (bq (Nat.beq f 222) _ (none))))))))=some g:=e
 cases h0:Nat.beq f 297 with
 |true=>
  rw [h0,aA] at e
  cases e
  rw [A8 h0];exact aqY row0
 |false=>
  rw [h0,aE] at e
  cases h1:Nat.beq f 331 with
  |true=>
   rw [h1,aA] at e
   cases e
   rw [A8 h1];exact an2 row1
  |false=>
   rw [h1,aE] at e
   cases h2:Nat.beq f 204 with
   |true=>
    rw [h2,aA] at e
    cases e
    rw [A8 h2];exact vy (k:=.u64) (aks .u64) row2
   |false=>
    rw [h2,aE] at e
    cases h3:Nat.beq f 130 with
    |true=>
     rw [h3,aA] at e
     cases e
     rw [A8 h3];exact vy (k:=.i64) (aks .i64) row3
    |false=>
     rw [h3,aE] at e
     cases h4:Nat.beq f 133 with
     |true=>
      rw [h4,aA] at e
      cases e
      rw [A8 h4];exact vy (k:=.i32) (aks .i32) row4
     |false=>
      rw [h4,aE] at e
      cases h5:Nat.beq f 263 with
      |true=>
       rw [h5,aA] at e
       cases e
       rw [A8 h5];exact anv (k:=.i32) row5
      |false=>
       rw [h5,aE] at e
       cases h6:Nat.beq f 178 with
       |true=>
        rw [h6,aA] at e
        cases e
        rw [A8 h6];exact ai2 (k:=.u32) row6
       |false=>
        rw [h6,aE] at e
        cases h7:Nat.beq f 222 with
        |true=>
         rw [h7,aA] at e
         cases e
         rw [A8 h7];exact aef (k:=.u32) row7
        |false=>
         rw [h7,aE] at e
         cases e
theorem axa {mx:Int} (orc: ∀f g,orc0 f=some g→ ∀run,dB Tryz.prog (C0 mx) run→ ∀args h r h',g run args h=some (r,h')→ga Tryz.prog (C0 mx) f args h r h'):c7 Tryz.prog (C0 mx):=by
 have ty: ∀t ti,(C0 mx).ty t=some ti→aeJ Tryz.prog t ti=true∧aeK Tryz.prog t ti=true:=fun t ti h=>by
  have:=uV axA t ti h
  rwa [Ba] at this
 exact ⟨fun t ti h=>(aaO (ty t ti h).1).1,fun t ti h=>(aaO (ty t ti h).1).2,fun t ti h=>amI (ty t ti h).2,fun f fn h=>jL.get axv f fn h,avS,fun f args v e=>(by cases e),orc,by kernel_rfl,fun g q e=>(by cases e)⟩
section
open Go.Shelf
theorem yP: ∀(p l:List UInt8),preB (p.map UInt8.toNat) (l.map UInt8.toNat)=p.isPrefixOf l
 |[],l=>by cases l<;>rfl
 |a::p,[]=>rfl
 |a::p,b::l=>by
  show bq (Nat.beq a.toNat b.toNat) (preB (p.map UInt8.toNat) (l.map UInt8.toNat)) false=_;rw [yP p l]
  by_cases h:a=b
  ·subst h;rw [Bs];simp [bq,List.isPrefixOf]
  ·have h1:Nat.beq a.toNat b.toNat=false:=by
    rw [BD];intro hh;exact h (UInt8.toNat_inj.1 (A8 hh))
   rw [h1,aE]
   simp [List.isPrefixOf,h]
theorem xM (p:List UInt8): ∀(l:List UInt8) (i:Nat),aca (p.map UInt8.toNat) (l.map UInt8.toNat) i=if Lib.index l p= -1 then-1 else Lib.index l p+i
 |[],i=>by
  show bq (preB (p.map UInt8.toNat) (([]:List UInt8).map UInt8.toNat)) (Int.ofNat i) (Int.negSucc 0)=_;rw [yP]
  cases p with
  |nil=>simp [Lib.index,List.isPrefixOf,bq]
  |cons a p=>simp [Lib.index,List.isPrefixOf,bq]
 |a::l,i=>by
  show bq (preB (p.map UInt8.toNat) ((a::l).map UInt8.toNat)) (Int.ofNat i) (aca (p.map UInt8.toNat) (l.map UInt8.toNat) (i+1))=_;rw [yP,xM p l (i+1)];have hge:=Lib.index_ge l p
  cases h:p.isPrefixOf (a::l) with
  |true=>
   have e1:Lib.index (a::l) p=0:=by simp [Lib.index,h]
   rw [aA,e1]
   simp
  |false=>
   rw [aE]
   by_cases h3:Lib.index l p= -1
   ·have e1:Lib.index (a::l) p= -1:=by simp [Lib.index,h,h3]
    rw [e1,if_pos h3,if_pos rfl]
   ·have e1:Lib.index (a::l) p=Lib.index l p+1:=by simp [Lib.index,h,h3]
    rw [e1,if_neg h3,if_neg (by omega)]
    push_cast
    omega
theorem aaA {mx:Int} {ok:Nat→Prop} {w:World} {ρ:Rho} {h:AH} (I:Inv (C0 mx) ok w ρ h):w.cell? ⟨2,0,none⟩=some (.int .i64 mx):=by
 obtain ⟨_,h2⟩:=I.gl 2 [.int 9223372036854775807 mx] rfl;simp only [VAt] at h2;obtain ⟨⟨u,h3,h4⟩,_⟩:=h2;simp only [V] at h4;obtain ⟨k,h5,rfl⟩:=h4
 cases k<;>first|exact h3|(exact absurd h5 (by decide))
theorem ahv {mx:Int} {args:List AV} {h:AH} {r:AV} {h':AH} (e:amP args h=some (r,h')):ga Tryz.prog (C0 mx) 260 args h r h':=by
 refine ⟨⟨_,Tryz.func260,by kernel_rfl,by kernel_rfl⟩,fun ok w ρ us I hv=>?_⟩;unfold amP at e
 split at e
 ·rename_i s p
  obtain ⟨e1,e2⟩:=aB e
  cases e2
  have e1:=Be e1;rw [ah] at e1;simp only [VL] at hv;obtain ⟨u1,_,rfl,v1,u2,_,rfl,v2,rfl⟩:=hv;simp only [V] at v1 v2;obtain ⟨S,rfl,rfl⟩:=v1;obtain ⟨Q,rfl,rfl⟩:=v2;have hs:S.size<4294967281:=by
   have:(S.data.toList.map UInt8.toNat).length=S.size:=by simp
   omega
  refine (Any.stringslite_Index axl S Q mx w hs (aaA I)).mono ?_;rintro en w' ⟨rfl,rfl⟩;refine ⟨_,ok,ρ,rfl,Ext.refl _ _ _ _,I,?_⟩;simp only [V];refine ⟨.i64,rfl,?_⟩;rw [xM]
  split
  ·next h=>rw [h]
  ·simp
 ·cases e
end
theorem aa1 (w:World):(callFunc 262 #[]).run Tryz.prog w= .ok (.value (.tuple #[])) w:=run_call_mark0 Tryz.func262 (by kernel_rfl) (by kernel_rfl) (by kernel_rfl) .disable (by kernel_rfl) w
theorem aeD (w:World):(callFunc 264 #[]).run Tryz.prog w= .ok (.value (.tuple #[])) w:=run_call_mark0 Tryz.func264 (by kernel_rfl) (by kernel_rfl) (by kernel_rfl) .enable (by kernel_rfl) w
theorem ald (a:Addr) (w:World):(callFunc 265 #[.pointer (some a)]).run Tryz.prog w= .ok (.value (.tuple #[])) w:=run_call_marked Tryz.func265 (by kernel_rfl) (by kernel_rfl) (by kernel_rfl) .acquire (by kernel_rfl) a w
theorem apK (a:Addr) (w:World):(callFunc 267 #[.pointer (some a)]).run Tryz.prog w= .ok (.value (.tuple #[])) w:=run_call_marked Tryz.func267 (by kernel_rfl) (by kernel_rfl) (by kernel_rfl) .releaseMerge (by kernel_rfl) a w
theorem tY (a:Addr) (x:Value) (u:FrameMode) (w:World) (hc:w.cell? a=some x) (hz:w.frozen? a=false):
 CallsD Tryz.prog 181 #[.pointer (some a),.bool true] u w fun e u' w'=>u'=u∧(e= .returned (.tuple #[])∧w'=w.drew.setCell a (.int .u32 1)):=by
 have hc':w.drew.cell? a=some x:=by go_simp
 have hz':w.drew.frozen? a=false:=by go_simp
 have hst:=run_call_store (P:=Tryz.prog) Tryz.func222 (by kernel_rfl) (by kernel_rfl) (by kernel_rfl) (by kernel_rfl) (k:=.u32) (y:=1) hc' hz'
 go_enter_d Tryz.func181,Tryz.ntmps181
 go_wp2
 go_region_calls
 all_goals (go_end0;exact ⟨rfl,rfl⟩)
set_option maxRecDepth 100000 in
set_option maxHeartbeats 1600000 in
theorem tC (a:Addr) (u:FrameMode) (w:World) (hc:w.cell? a=some (.int .i32 1)) (hz:w.frozen? a=false):
 CallsD Tryz.prog 180 #[.pointer (some a)] u w fun e u' w'=>u'=u∧(e= .returned (.tuple #[])∧w'=w.setCell a (.int .i32 0)):=by
 have hd:=aa1;have he:=aeD;have hr:=apK;have hadd:=run_call_add (P:=Tryz.prog) Tryz.func133 (by kernel_rfl) (by kernel_rfl) (by kernel_rfl) .i32 (by kernel_rfl) (y:= -1) (s:=0) hc hz (by simp [go_sem];rfl);have hcv:=run_convert_to_unsafe (P:=Tryz.prog) (src:=429) (dst:=432) Tryz.underlying429 Tryz.underlying432 (by kernel_rfl) hc
 go_enter_d Tryz.func180,Tryz.ntmps180
 go_wp2
 go_end0
 go_wp2
 go_end0
 exact ⟨rfl,rfl⟩
set_option maxRecDepth 100000 in
set_option maxHeartbeats 1600000 in
theorem ajE (a:Addr) (w:World) (hc:w.cell? a=some (.int .i32 0)) (hz:w.frozen? a=false):
 Calls Tryz.prog 179 #[.pointer (some a)] w fun e w'=>e= .returned (.tuple #[])∧w'=w.setCell a (.int .i32 1):=by
 have hd:=aa1;have he:=aeD;have ha:=ald;have hcas:=run_call_cas_hit (P:=Tryz.prog) Tryz.func263 (by kernel_rfl) (by kernel_rfl) (by kernel_rfl) .i32 (by kernel_rfl) (y:=1) hc hz;have hc':(w.setCell a (.int .i32 1)).cell? a=some (.int .i32 1):=World.cell?_setCell_same w a _ hc;have hcv:=run_convert_to_unsafe (P:=Tryz.prog) (src:=429) (dst:=432) Tryz.underlying429 Tryz.underlying432 (by kernel_rfl) hc'
 go_enter Tryz.func179,Tryz.ntmps179
 go_wp2
 first|go_end0|(simp only [Exit.inBlock,Exit.then];refine bodyPost_ret (results_none rfl _ _ _) rfl ?_)|refine bodyPost_ret (results_none rfl _ _ _) rfl ?_
 go_wp2
 go_end0
 exact ⟨rfl,rfl⟩
theorem ry {a b:Int} (h:cD a b=true):a=b:=by
 cases a<;>cases b<;>simp [cD] at h<;>simp [h]
set_option maxRecDepth 100000 in
set_option maxHeartbeats 1600000 in
theorem alU {mx:Int} {run:Run} (H:dB Tryz.prog (C0 mx) run) {args:List AV} {h:AH} {r:AV} {h':AH} (e:akc run args h=some (r,h')):ga Tryz.prog (C0 mx) 132 args h r h':=by
 unfold akc at e
 split at e
 ·rename_i b o f q z
  obtain ⟨cs0,y0,c0,a1,a2,a3⟩:=dZ e;obtain ⟨d,rfl,a4⟩:=dx a3;obtain ⟨a5,a6⟩:=aB a4;obtain ⟨cs1,y1,c1,b1,b2,b3⟩:=dZ a6;obtain ⟨m,rfl,b4⟩:=dx b3;obtain ⟨b5,b6⟩:=aB b4;obtain ⟨⟨u,h2⟩,d1,d2⟩:=ai b6;obtain ⟨cs2,y2,c2,g1,g2,g3⟩:=dZ d2;obtain ⟨z2,rfl,g4⟩:=dx g3;obtain ⟨cs3,y3,c3,k1,k2,k3⟩:=dZ g4;obtain ⟨m3,rfl,k4⟩:=dx k3;obtain ⟨k5,k6⟩:=aB k4
  cases k6
  rw [a1] at b1;cases b1
  obtain rfl:=ry a5;obtain rfl:=ry b5;obtain rfl:=ry k5;obtain ⟨⟨fn,f1,f2,f3⟩,R⟩:=H _ _ _ _ _ d1;clear e a3 a4 a5 a6 b3 b4 b5 b6 d1 d2 g3 g4 k3 k4 k5;refine ⟨⟨_,Tryz.func132,by kernel_rfl,by kernel_rfl⟩,fun ok w ρ us I hv=>?_⟩;simp only [VL] at hv;obtain ⟨u1,_,rfl,v1,u2,_,rfl,v2,rfl⟩:=hv;simp only [V,VL] at v1 v2;obtain ⟨rb,n1,rfl⟩:=v1;obtain ⟨fa,fc,rfl,n2,n3⟩:=v2;obtain ⟨uq,_,n4,n5,rfl⟩:=n3;obtain ⟨rq,n6,rfl⟩:=n5;obtain rfl:fa= #[]:=by cases fa;simp_all
  obtain rfl:fc= #[.pointer (some ⟨rq,z,none⟩)]:=by cases fc;simp_all
  obtain ⟨r0,w0,p1,p2,p3,p4,p5⟩:=fI I a1 a2;rw [n1] at p1;cases p1
  cases mH (k:=.u32) p3
  obtain ⟨r1,w1,s1,s2,s3,s4,s5⟩:=fI I a1 b2;rw [n1] at s1;cases s1
  cases mH (k:=.i32) s3
  obtain ⟨E1,I1⟩:=s5 (.int 2147483647 1) (.int .i32 1) (hI (k:=.i32));have C:=R ok _ ρ [.pointer (some ⟨rq,z,none⟩)] I1 (by simp only [VL,V];exact ⟨_,_,rfl,⟨rq,n6,rfl⟩,rfl⟩);have eg: ∀args w,(callFunc f args).run Tryz.prog w= .ok (.enter f args) w:=by
   cases hb:fn.body with
   |none=>rw [hb] at f3;cases f3
   |some c=>exact enters_of f1 f2 hb
  have hl:=run_call_load (P:=Tryz.prog) Tryz.func178 (by kernel_rfl) (by kernel_rfl) (by kernel_rfl) .u32 (by kernel_rfl) (w:=w.setCell ⟨rb,o+1,none⟩ (.int .i32 1)) (a:=⟨rb,o,none⟩) (x:=0) ((World.cell?_setCell_other _ ⟨rb,o+1,none⟩ ⟨rb,o,none⟩ _ (by simp)).trans p2);have hnot: ∀(x:Bool) (w:World),(Op.unary .not (.bool x)).run Tryz.prog w= .ok (.bool (!x)) w:=fun _ _=>rfl
  go_enter_defers Tryz.func132,Tryz.ntmps132
  go_wp2_with (go_at_call 179;refine (ajE ⟨rb,o+1,none⟩ _ (by go_simp) (by go_simp)).mono ?_;rintro e w' ⟨rfl,rfl⟩)
  go_wp2
  refine C.mono ?_;rintro e w2 ⟨u2,ok2,ρ2,rfl,E2,I2,V2⟩;have m1:=E2.up.nam b rb n1;obtain ⟨Ed,Id⟩:=Ext.drew I2 (w2.drawn+1);obtain ⟨r2,x2,t1,t2,t3,t4,t5⟩:=fI Id g1 g2;rw [m1] at t1;cases t1;obtain ⟨E3,I3⟩:=t5 (.int 4294967295 1) (.int .u32 1) (hI (k:=.u32));obtain ⟨r3,x3,l1,l2,l3,l4,l5⟩:=fI I3 k1 k2;rw [m1] at l1;cases l1
  cases mH (k:=.i32) l3
  obtain ⟨E4,I4⟩:=l5 (.int 2147483647 0) (.int .i32 0) (hI (k:=.i32))
  go_wp2
  have q2:w2.cell? ⟨rb,o,none⟩=some x2:=by rw [←World.cell?_drew];exact t2
  have q4:w2.frozen? ⟨rb,o,none⟩=false:=by rw [←World.frozen?_drew];exact t4
  refine leaves_cons (f:=181) (args:= #[.pointer (some ⟨rb,o,none⟩),.bool true]) (by simp) (by simp [go_sem]) ?_;refine (tY ⟨rb,o,none⟩ x2 .returning _ q2 q4).mono ?_;rintro e u' w'' ⟨rfl,rfl,rfl⟩;refine leaves_cons (f:=180) (args:= #[.pointer (some ⟨rb,o+1,none⟩)]) (by simp [settle]) (by simp [go_sem]) ?_;refine (tC ⟨rb,o+1,none⟩ _ _ l2 l4).mono ?_;rintro e u' w'' ⟨rfl,rfl,rfl⟩;have Efin:=Ext.trans I E1 (Ext.trans I1 E2 (Ext.trans I2 Ed (Ext.trans Id E3 E4)));refine ⟨.tuple #[],?_,.tuple #[],ok2,ρ2,rfl,Efin,I4,by simp only [V];exact ⟨#[],rfl,by simp only [VL]⟩⟩
  simp [results,Tryz.results132]
 ·cases e
theorem bN {mx:Int}:c7 Tryz.prog (C0 mx):=by
 refine axa fun f g e run hr args h r h' e2=>?_
 have e:bq (Nat.beq f 260) _ (bq (Nat.beq f 132) _ (none))=some g:=e
 cases h0:Nat.beq f 260 with
 |true=>
  rw [h0,aA] at e
  cases e
  rw [A8 h0];exact ahv e2
 |false=>
  rw [h0,aE] at e
  cases h1:Nat.beq f 132 with
  |true=>
   rw [h1,aA] at e
   cases e
   rw [A8 h1];exact alU hr e2
  |false=>
   rw [h1,aE] at e
   cases e
section
open Go.RowKit
theorem aqA {cs : Array Value} {fuel : Nat} {p : List MemPlace} {W : World} (hv : W.var? Tryz.prog "strings.asciiSpace" = some cs) (hd : DataW.trod (fun _ => ()) Tryz.prog W 0 (fun _ => true) false fuel 314 cs.toList = some (Rows.laid_strings_asciiSpace, p)) : VAt (· < W.heap.size) W auU ρ0 0 0 := by
 show VAt (· <W.heap.size) W (ascZ.map fun n=>.int (cT .u8) n) ρ0 0 0;refine afT fun r hr=>?_
 rw [BE];exact ah0 (by kernel_rfl) hv Tryz.underlying314 Tryz.underlying5 (by kernel_rfl) (by kernel_rfl) (by kernel_rfl) hd r hr
theorem abg {W:World} (hs:W.ShapedOpen Tryz.prog): ∃m,W.cell? ⟨2,0,none⟩=some (.int .i64 m):=
 cell_of_shapedOpen_int (t:=3) (zero:= #[.int .i64 0]) hs (of_decide_eq_true (by kernel_rfl)) (by kernel_rfl) rfl (by kernel_rfl) (by kernel_rfl) Tryz.underlying3
theorem ue {w:World} {b o:Nat} {v:Value} (h:w.cell? ⟨b,o,none⟩=some v):b<w.heap.size:=by
 rcases BN b w.heap.size with h1|h1
 ·exact h1
 ·unfold World.cell? at h
  rw [CN h1] at h
  simp at h
theorem ai8 {ok:Nat→Prop} {w:World} {l:List AV} {ρ:Rho} {g:Nat} (h:VAt ok w l ρ g 0) (hl:l≠[]):g<w.heap.size:=by
 cases l with
 |nil=>exact absurd rfl hl
 |cons a r=>
  simp only [VAt] at h;obtain ⟨⟨u,hu,_⟩,_⟩:=h;exact ue hu
theorem inv0 {W:World} {mx:Int} (t0:VAt (· <W.heap.size) W auU ρ0 0 0) (hm:W.cell? ⟨2,0,none⟩=some (.int .i64 mx)):Inv (C0 mx) (· <W.heap.size) W ρ0 []:=by
 refine ⟨fun _ h=>h,fun n r e=>(by cases e),fun n b e=>(by simp [bE] at e),fun n m r hn=>(by simp [bE] at hn),fun g cs e=>?_⟩;have e:gl0 mx g=some cs:=e;unfold gl0 at e
 cases h0:Nat.beq g 0 with
 |true=>
  rw [h0,aA] at e
  cases e
  rw [A8 h0];exact ⟨ai8 t0 (by intro c;have:=congrArg List.length c;revert this;decide+kernel),t0⟩
 |false=>
  rw [h0,aE] at e;obtain ⟨hg,e⟩:=aB e
  cases e
  rw [A8 hg];refine ⟨ue hm,?_⟩;simp only [VAt];refine ⟨⟨_,hm,?_⟩,trivial⟩;simp only [V];exact ⟨.i64,rfl,rfl⟩
end
end Go.Proofs.YtemmgalfdmnkoaaGreatDoor
