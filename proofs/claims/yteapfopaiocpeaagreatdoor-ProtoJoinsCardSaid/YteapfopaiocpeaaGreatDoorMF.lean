/- The tables of this program, and its context, which is right. -/
import Derived.Test.YteapfopaiocpeaaGreatDoorProg
import Derived.Test.YteapfopaiocpeaaGreatDoorMA
import Derived.Shelf.Strconv.Itoa0
import Derived.Shelf.Strings.Search1
import Derived.Shelf.Strings.Search2
import Derived.Shelf.Strings.Search3
import Derived.Shelf.LaysM
import Derived.Shelf.Strings.Shaped
import Derived.Shelf.Unicode.Latin
import Derived.Shelf.Bits.Mul64
import Derived.Shelf.Unicode.Is16White
import Derived.Shelf.Unicode.IsSpaceAny
import Derived.Shelf.Unicode.Is16Any
import Derived.Shelf.Unicode.Is32Any
import Derived.Shelf.Unicode.ExclAny
import Derived.Ground.Names2Prog
import Derived.Shelf.Slices.Clone
import Derived.Shelf.Slices.SearchI
import Derived.Ground.SlgnProg
import Derived.Shelf.SlicesE.Clone
import Derived.Test.YteapfopaiocpeaaGreatDoorME
import Derived.Test.YteapfopaiocpeaaGreatDoorRows
import Derived.WalkKit
import Derived.Tactics
import Derived.Tactics2
import Derived.Defers
import Derived.Laws.Pointers
import Derived.Laws.LoneSync
import Derived.RegionTactic
import Derived.RegionCalls
import Derived.Shelf.Abstract
import Derived.Shelf.Vars
import Derived.LaidMore
import Derived.MakeChecks
namespace Go.Proofs.YteapfopaiocpeaaGreatDoor
noncomputable section
noncomputable def tyT:BT TI:=(.nd 296 (.nd 147 (.nd 74 (.nd 36 (.nd 17 (.nd 9 (.nd 5 (.nd 3 (.nd 2 (.lf 1 ⟨.func,1,8,[.nilf],false,false⟩) (.lf 2 ⟨.int .i64,1,8,[.i 0],false,true⟩)) (.nd 4 (.lf 3 ⟨.int .i64,1,8,[.i 0],false,true⟩) (.lf 4 ⟨.bool,1,1,[.bool false],false,true⟩))) (.nd 7 (.nd 6 (.lf 5 ⟨.int .u8,1,1,[.b 0],false,true⟩) (.lf 6 ⟨.int .u8,1,1,[.b 0],false,true⟩)) (.nd 8 (.lf 7 ⟨.struct [(0,2),(1,3),(2,4),(3,6)],4,24,[.i 0,.i 0,.bool false,.b 0],true,false⟩) (.lf 8 ⟨.struct [(0,2),(1,3),(2,4),(3,6)],4,24,[.i 0,.i 0,.bool false,.b 0],true,false⟩)))) (.nd 13 (.nd 11 (.nd 10 (.lf 9 ⟨.string,1,16,[.str []],false,true⟩) (.lf 10 ⟨.string,1,16,[.str []],false,true⟩)) (.nd 12 (.lf 11 ⟨.string,1,16,[.str []],false,true⟩) (.lf 12 ⟨.int .u64,1,8,[.u 0],false,true⟩))) (.nd 15 (.nd 14 (.lf 13 ⟨.struct [(0,9),(1,12)],2,24,[.str [],.u 0],true,false⟩) (.lf 14 ⟨.struct [(0,9),(1,12)],2,24,[.str [],.u 0],true,false⟩)) (.nd 16 (.lf 15 ⟨.pointer 565,1,8,[.nil],false,false⟩) (.lf 16 ⟨.pointer 568,1,8,[.nil],false,false⟩))))) (.nd 25 (.nd 21 (.nd 19 (.nd 18 (.lf 17 ⟨.pointer 576,1,8,[.nil],false,false⟩) (.lf 18 ⟨.struct [(0,17)],1,8,[.nil],true,false⟩)) (.nd 20 (.lf 19 ⟨.struct [(0,17)],1,8,[.nil],true,false⟩) (.lf 20 ⟨.iface,1,16,[.nili],false,false⟩))) (.nd 23 (.nd 22 (.lf 21 ⟨.int .i32,1,4,[.v 0],false,true⟩) (.lf 22 ⟨.slice 5,1,24,[.nils],false,false⟩)) (.nd 24 (.lf 23 ⟨.func,1,8,[.nilf],false,false⟩) (.lf 24 ⟨.slice 42,1,24,[.nils],false,false⟩)))) (.nd 30 (.nd 27 (.nd 26 (.lf 25 ⟨.int .i64,1,8,[.i 0],false,true⟩) (.lf 26 ⟨.struct [(0,25),(1,3)],2,16,[.i 0,.i 0],true,true⟩)) (.nd 29 (.lf 27 ⟨.struct [(0,25),(1,3)],2,16,[.i 0,.i 0],true,true⟩) (.lf 29 ⟨.pointer 66,1,8,[.nil],false,false⟩))) (.nd 32 (.nd 31 (.lf 30 ⟨.func,1,8,[.nilf],false,false⟩) (.lf 31 ⟨.func,1,8,[.nilf],false,false⟩)) (.nd 33 (.lf 32 ⟨.struct [(0,3),(1,3),(2,3)],3,24,[.i 0,.i 0,.i 0],true,true⟩) (.nd 34 (.lf 33 ⟨.struct [(0,3),(1,3),(2,3)],3,24,[.i 0,.i 0,.i 0],true,true⟩) (.lf 34 ⟨.func,1,8,[.nilf],false,false⟩))))))) (.nd 55 (.nd 45 (.nd 40 (.nd 38 (.nd 37 (.lf 36 ⟨.func,1,8,[.nilf],false,false⟩) (.lf 37 ⟨.func,1,8,[.nilf],false,false⟩)) (.nd 39 (.lf 38 ⟨.func,1,8,[.nilf],false,false⟩) (.lf 39 ⟨.func,1,8,[.nilf],false,false⟩))) (.nd 42 (.nd 41 (.lf 40 ⟨.int .u64,1,8,[.u 0],false,true⟩) (.lf 41 ⟨.struct [(0,3),(1,3),(2,40),(3,22)],4,48,[.i 0,.i 0,.u 0,.nils],true,false⟩)) (.nd 44 (.lf 42 ⟨.struct [(0,3),(1,3),(2,40),(3,22)],4,48,[.i 0,.i 0,.u 0,.nils],true,false⟩) (.lf 44 ⟨.func,1,8,[.nilf],false,false⟩)))) (.nd 51 (.nd 48 (.nd 47 (.lf 45 ⟨.func,1,8,[.nilf],false,false⟩) (.lf 47 ⟨.func,1,8,[.nilf],false,false⟩)) (.nd 50 (.lf 48 ⟨.slice 40,1,24,[.nils],false,false⟩) (.lf 50 ⟨.func,1,8,[.nilf],false,false⟩))) (.nd 53 (.nd 52 (.lf 51 ⟨.func,1,8,[.nilf],false,false⟩) (.lf 52 ⟨.slice 174,1,24,[.nils],false,false⟩)) (.nd 54 (.lf 53 ⟨.slice 104,1,24,[.nils],false,false⟩) (.lf 54 ⟨.struct [(0,52),(1,53)],2,48,[.nils,.nils],true,false⟩))))) (.nd 64 (.nd 60 (.nd 58 (.nd 57 (.lf 55 ⟨.struct [(0,52),(1,53)],2,48,[.nils,.nils],true,false⟩) (.lf 57 ⟨.func,1,8,[.nilf],false,false⟩)) (.nd 59 (.lf 58 ⟨.func,1,8,[.nilf],false,false⟩) (.lf 59 ⟨.func,1,8,[.nilf],false,false⟩))) (.nd 62 (.nd 61 (.lf 60 ⟨.func,1,8,[.nilf],false,false⟩) (.lf 61 ⟨.func,1,8,[.nilf],false,false⟩)) (.nd 63 (.lf 62 ⟨.pointer 109,1,8,[.nil],false,false⟩) (.lf 63 ⟨.func,1,8,[.nilf],false,false⟩)))) (.nd 68 (.nd 66 (.nd 65 (.lf 64 ⟨.func,1,8,[.nilf],false,false⟩) (.lf 65 ⟨.struct [(0,62)],1,8,[.nil],true,false⟩)) (.nd 67 (.lf 66 ⟨.struct [(0,62)],1,8,[.nil],true,false⟩) (.lf 67 ⟨.slice 69,1,24,[.nils],false,false⟩))) (.nd 71 (.nd 69 (.lf 68 ⟨.struct [(0,40),(1,4),(2,22),(3,67)],4,64,[.u 0,.bool false,.nils,.nils],true,false⟩) (.lf 69 ⟨.struct [(0,40),(1,4),(2,22),(3,67)],4,64,[.u 0,.bool false,.nils,.nils],true,false⟩)) (.nd 72 (.lf 71 ⟨.pointer 138,1,8,[.nil],false,false⟩) (.nd 73 (.lf 72 ⟨.func,1,8,[.nilf],false,false⟩) (.lf 73 ⟨.func,1,8,[.nilf],false,false⟩)))))))) (.nd 112 (.nd 94 (.nd 84 (.nd 79 (.nd 77 (.nd 76 (.lf 74 ⟨.int .u64,1,8,[.u 0],false,true⟩) (.lf 76 ⟨.func,1,8,[.nilf],false,false⟩)) (.nd 78 (.lf 77 ⟨.func,1,8,[.nilf],false,false⟩) (.lf 78 ⟨.func,1,8,[.nilf],false,false⟩))) (.nd 82 (.nd 80 (.lf 79 ⟨.func,1,8,[.nilf],false,false⟩) (.lf 80 ⟨.func,1,8,[.nilf],false,false⟩)) (.nd 83 (.lf 82 ⟨.func,1,8,[.nilf],false,false⟩) (.lf 83 ⟨.func,1,8,[.nilf],false,false⟩)))) (.nd 89 (.nd 86 (.nd 85 (.lf 84 ⟨.pointer 147,1,8,[.nil],false,false⟩) (.lf 85 ⟨.func,1,8,[.nilf],false,false⟩)) (.nd 88 (.lf 86 ⟨.func,1,8,[.nilf],false,false⟩) (.lf 88 ⟨.func,1,8,[.nilf],false,false⟩))) (.nd 92 (.nd 91 (.lf 89 ⟨.slice 98,1,24,[.nils],false,false⟩) (.lf 91 ⟨.func,1,8,[.nilf],false,false⟩)) (.nd 93 (.lf 92 ⟨.pointer 96,1,8,[.nil],false,false⟩) (.lf 93 ⟨.struct [(0,55)],2,48,[.nils,.nils],true,false⟩))))) (.nd 103 (.nd 98 (.nd 96 (.nd 95 (.lf 94 ⟨.struct [(0,55)],2,48,[.nils,.nils],true,false⟩) (.lf 95 ⟨.struct [(0,89),(1,3),(2,94),(4,27)],6,96,[.nils,.i 0,.nils,.nils,.i 0,.i 0],true,false⟩)) (.nd 97 (.lf 96 ⟨.struct [(0,89),(1,3),(2,94),(4,27)],6,96,[.nils,.i 0,.nils,.nils,.i 0,.i 0],true,false⟩) (.lf 97 ⟨.struct [(0,3),(1,3),(2,9)],3,32,[.i 0,.i 0,.str []],true,true⟩))) (.nd 101 (.nd 99 (.lf 98 ⟨.struct [(0,3),(1,3),(2,9)],3,32,[.i 0,.i 0,.str []],true,true⟩) (.lf 99 ⟨.func,1,8,[.nilf],false,false⟩)) (.nd 102 (.lf 101 ⟨.func,1,8,[.nilf],false,false⟩) (.lf 102 ⟨.func,1,8,[.nilf],false,false⟩)))) (.nd 107 (.nd 105 (.nd 104 (.lf 103 ⟨.struct [(0,9),(1,3)],2,24,[.str [],.i 0],true,true⟩) (.lf 104 ⟨.struct [(0,9),(1,3)],2,24,[.str [],.i 0],true,true⟩)) (.nd 106 (.lf 105 ⟨.func,1,8,[.nilf],false,false⟩) (.lf 106 ⟨.map 9 71,1,8,[.nilm],false,false⟩))) (.nd 109 (.nd 108 (.lf 107 ⟨.slice 9,1,24,[.nils],false,false⟩) (.lf 108 ⟨.struct [(0,106),(1,107)],2,32,[.nilm,.nils],true,false⟩)) (.nd 110 (.lf 109 ⟨.struct [(0,106),(1,107)],2,32,[.nilm,.nils],true,false⟩) (.nd 111 (.lf 110 ⟨.func,1,8,[.nilf],false,false⟩) (.lf 111 ⟨.func,1,8,[.nilf],false,false⟩))))))) (.nd 129 (.nd 120 (.nd 116 (.nd 114 (.nd 113 (.lf 112 ⟨.struct [],0,0,[],true,true⟩) (.lf 113 ⟨.struct [],0,0,[],true,true⟩)) (.nd 115 (.lf 114 ⟨.struct [],0,0,[],true,true⟩) (.lf 115 ⟨.int .u32,1,4,[.w 0],false,true⟩))) (.nd 118 (.nd 117 (.lf 116 ⟨.struct [(0,114),(0,115)],1,4,[.w 0],true,false⟩) (.lf 117 ⟨.struct [(0,114),(0,115)],1,4,[.w 0],true,false⟩)) (.nd 119 (.lf 118 ⟨.struct [(0,21),(1,115)],2,8,[.v 0,.w 0],true,true⟩) (.lf 119 ⟨.struct [(0,21),(1,115)],2,8,[.v 0,.w 0],true,true⟩)))) (.nd 124 (.nd 122 (.nd 121 (.lf 120 ⟨.struct [(0,113),(0,119)],2,8,[.v 0,.w 0],true,false⟩) (.lf 121 ⟨.struct [(0,113),(0,119)],2,8,[.v 0,.w 0],true,false⟩)) (.nd 123 (.lf 122 ⟨.struct [(0,113),(0,117),(1,121)],3,12,[.w 0,.v 0,.w 0],true,false⟩) (.lf 123 ⟨.struct [(0,113),(0,117),(1,121)],3,12,[.w 0,.v 0,.w 0],true,false⟩))) (.nd 126 (.nd 125 (.lf 124 ⟨.pointer 241,1,8,[.nil],false,false⟩) (.lf 125 ⟨.pointer 195,1,8,[.nil],false,false⟩)) (.nd 127 (.lf 126 ⟨.struct [(0,40),(1,3),(2,3)],3,24,[.u 0,.i 0,.i 0],true,true⟩) (.nd 128 (.lf 127 ⟨.struct [(0,40),(1,3),(2,3)],3,24,[.u 0,.i 0,.i 0],true,true⟩) (.lf 128 ⟨.struct [],0,0,[],true,true⟩)))))) (.nd 137 (.nd 133 (.nd 131 (.nd 130 (.lf 129 ⟨.struct [(0,114),(0,128),(0,2)],1,8,[.i 0],true,false⟩) (.lf 130 ⟨.struct [(0,114),(0,128),(0,2)],1,8,[.i 0],true,false⟩)) (.nd 132 (.lf 131 ⟨.struct [(0,114),(0,21)],1,4,[.v 0],true,false⟩) (.lf 132 ⟨.struct [(0,114),(0,21)],1,4,[.v 0],true,false⟩))) (.nd 135 (.nd 134 (.lf 133 ⟨.struct [(0,114),(0,128),(0,40)],1,8,[.u 0],true,false⟩) (.lf 134 ⟨.struct [(0,114),(0,128),(0,40)],1,8,[.u 0],true,false⟩)) (.nd 136 (.lf 135 ⟨.struct [(0,134),(1,134),(2,134),(3,134),(4,134)],5,40,[.u 0,.u 0,.u 0,.u 0,.u 0],true,false⟩) (.lf 136 ⟨.struct [(0,134),(1,134),(2,134),(3,134),(4,134)],5,40,[.u 0,.u 0,.u 0,.u 0,.u 0],true,false⟩)))) (.nd 141 (.nd 139 (.nd 138 (.lf 137 ⟨.struct [(0,9),(1,55),(3,4),(4,123),(7,124),(8,125),(9,127),(12,27),(14,130),(15,132),(16,136)],21,192,[.str [],.nils,.nils,.bool false,.w 0,.v 0,.w 0,.nil,.nil,.u 0,.i 0,.i 0,.i 0,.i 0,.i 0,.v 0,.u 0,.u 0,.u 0,.u 0,.u 0],true,false⟩) (.lf 138 ⟨.struct [(0,9),(1,55),(3,4),(4,123),(7,124),(8,125),(9,127),(12,27),(14,130),(15,132),(16,136)],21,192,[.str [],.nils,.nils,.bool false,.w 0,.v 0,.w 0,.nil,.nil,.u 0,.i 0,.i 0,.i 0,.i 0,.i 0,.v 0,.u 0,.u 0,.u 0,.u 0,.u 0],true,false⟩)) (.nd 140 (.lf 139 ⟨.func,1,8,[.nilf],false,false⟩) (.lf 140 ⟨.func,1,8,[.nilf],false,false⟩))) (.nd 144 (.nd 143 (.lf 141 ⟨.func,1,8,[.nilf],false,false⟩) (.lf 143 ⟨.func,1,8,[.nilf],false,false⟩)) (.nd 145 (.lf 144 ⟨.func,1,8,[.nilf],false,false⟩) (.nd 146 (.lf 145 ⟨.func,1,8,[.nilf],false,false⟩) (.lf 146 ⟨.struct [(0,22),(1,3)],2,32,[.nils,.i 0],true,false⟩))))))))) (.nd 220 (.nd 183 (.nd 166 (.nd 157 (.nd 153 (.nd 149 (.nd 148 (.lf 147 ⟨.struct [(0,22),(1,3)],2,32,[.nils,.i 0],true,false⟩) (.lf 148 ⟨.struct [(0,4),(1,40),(2,3)],3,24,[.bool false,.u 0,.i 0],true,true⟩)) (.nd 151 (.lf 149 ⟨.struct [(0,4),(1,40),(2,3)],3,24,[.bool false,.u 0,.i 0],true,true⟩) (.lf 151 ⟨.func,1,8,[.nilf],false,false⟩))) (.nd 155 (.nd 154 (.lf 153 ⟨.func,1,8,[.nilf],false,false⟩) (.lf 154 ⟨.func,1,8,[.nilf],false,false⟩)) (.nd 156 (.lf 155 ⟨.pointer 157,1,8,[.nil],false,false⟩) (.lf 156 ⟨.struct [(0,9),(1,3),(2,89)],3,48,[.str [],.i 0,.nils],true,false⟩)))) (.nd 162 (.nd 160 (.nd 159 (.lf 157 ⟨.struct [(0,9),(1,3),(2,89)],3,48,[.str [],.i 0,.nils],true,false⟩) (.lf 159 ⟨.func,1,8,[.nilf],false,false⟩)) (.nd 161 (.lf 160 ⟨.func,1,8,[.nilf],false,false⟩) (.lf 161 ⟨.func,1,8,[.nilf],false,false⟩))) (.nd 164 (.nd 163 (.lf 162 ⟨.func,1,8,[.nilf],false,false⟩) (.lf 163 ⟨.func,1,8,[.nilf],false,false⟩)) (.nd 165 (.lf 164 ⟨.func,1,8,[.nilf],false,false⟩) (.lf 165 ⟨.pointer 94,1,8,[.nil],false,false⟩))))) (.nd 174 (.nd 170 (.nd 168 (.nd 167 (.lf 166 ⟨.func,1,8,[.nilf],false,false⟩) (.lf 167 ⟨.struct [(0,9),(1,40),(2,40)],3,32,[.str [],.u 0,.u 0],true,true⟩)) (.nd 169 (.lf 168 ⟨.struct [(0,9),(1,40),(2,40)],3,32,[.str [],.u 0,.u 0],true,true⟩) (.lf 169 ⟨.slice 3,1,24,[.nils],false,false⟩))) (.nd 172 (.nd 171 (.lf 170 ⟨.slice 4,1,24,[.nils],false,false⟩) (.lf 171 ⟨.slice 178,1,24,[.nils],false,false⟩)) (.nd 173 (.lf 172 ⟨.slice 180,1,24,[.nils],false,false⟩) (.lf 173 ⟨.struct [(0,3),(1,3),(2,4),(3,4),(4,4),(5,40),(6,40),(7,9),(8,168),(11,169),(12,170),(13,171),(14,9),(15,40),(16,172),(17,3)],18,216,[.i 0,.i 0,.bool false,.bool false,.bool false,.u 0,.u 0,.str [],.str [],.u 0,.u 0,.nils,.nils,.nils,.str [],.u 0,.nils,.i 0],true,false⟩)))) (.nd 178 (.nd 176 (.nd 175 (.lf 174 ⟨.struct [(0,3),(1,3),(2,4),(3,4),(4,4),(5,40),(6,40),(7,9),(8,168),(11,169),(12,170),(13,171),(14,9),(15,40),(16,172),(17,3)],18,216,[.i 0,.i 0,.bool false,.bool false,.bool false,.u 0,.u 0,.str [],.str [],.u 0,.u 0,.nils,.nils,.nils,.str [],.u 0,.nils,.i 0],true,false⟩) (.lf 175 ⟨.func,1,8,[.nilf],false,false⟩)) (.nd 177 (.lf 176 ⟨.func,1,8,[.nilf],false,false⟩) (.lf 177 ⟨.struct [(0,9),(1,3),(2,3),(3,9),(4,9)],5,64,[.str [],.i 0,.i 0,.str [],.str []],true,true⟩))) (.nd 180 (.nd 179 (.lf 178 ⟨.struct [(0,9),(1,3),(2,3),(3,9),(4,9)],5,64,[.str [],.i 0,.i 0,.str [],.str []],true,true⟩) (.lf 179 ⟨.struct [(0,40),(1,3)],2,16,[.u 0,.i 0],true,true⟩)) (.nd 181 (.lf 180 ⟨.struct [(0,40),(1,3)],2,16,[.u 0,.i 0],true,true⟩) (.nd 182 (.lf 181 ⟨.func,1,8,[.nilf],false,false⟩) (.lf 182 ⟨.func,1,8,[.nilf],false,false⟩))))))) (.nd 201 (.nd 192 (.nd 187 (.nd 185 (.nd 184 (.lf 183 ⟨.func,1,8,[.nilf],false,false⟩) (.lf 184 ⟨.func,1,8,[.nilf],false,false⟩)) (.nd 186 (.lf 185 ⟨.func,1,8,[.nilf],false,false⟩) (.lf 186 ⟨.func,1,8,[.nilf],false,false⟩))) (.nd 190 (.nd 189 (.lf 187 ⟨.pointer 136,1,8,[.nil],false,false⟩) (.lf 189 ⟨.func,1,8,[.nilf],false,false⟩)) (.nd 191 (.lf 190 ⟨.func,1,8,[.nilf],false,false⟩) (.lf 191 ⟨.func,1,8,[.nilf],false,false⟩)))) (.nd 196 (.nd 194 (.nd 193 (.lf 192 ⟨.pointer 258,1,8,[.nil],false,false⟩) (.lf 193 ⟨.pointer 245,1,8,[.nil],false,false⟩)) (.nd 195 (.lf 194 ⟨.struct [(0,192),(1,55),(3,193)],4,64,[.nil,.nils,.nils,.nil],true,false⟩) (.lf 195 ⟨.struct [(0,192),(1,55),(3,193)],4,64,[.nil,.nils,.nils,.nil],true,false⟩))) (.nd 198 (.nd 197 (.lf 196 ⟨.pointer 200,1,8,[.nil],false,false⟩) (.lf 197 ⟨.pointer 261,1,8,[.nil],false,false⟩)) (.nd 199 (.lf 198 ⟨.func,1,8,[.nilf],false,false⟩) (.nd 200 (.lf 199 ⟨.struct [(0,125),(1,197),(2,3),(3,27)],5,40,[.nil,.nil,.i 0,.i 0,.i 0],true,false⟩) (.lf 200 ⟨.struct [(0,125),(1,197),(2,3),(3,27)],5,40,[.nil,.nil,.i 0,.i 0,.i 0],true,false⟩)))))) (.nd 210 (.nd 206 (.nd 203 (.nd 202 (.lf 201 ⟨.func,1,8,[.nilf],false,false⟩) (.lf 202 ⟨.func,1,8,[.nilf],false,false⟩)) (.nd 204 (.lf 203 ⟨.func,1,8,[.nilf],false,false⟩) (.lf 204 ⟨.func,1,8,[.nilf],false,false⟩))) (.nd 208 (.nd 207 (.lf 206 ⟨.func,1,8,[.nilf],false,false⟩) (.lf 207 ⟨.pointer 149,1,8,[.nil],false,false⟩)) (.nd 209 (.lf 208 ⟨.func,1,8,[.nilf],false,false⟩) (.lf 209 ⟨.func,1,8,[.nilf],false,false⟩)))) (.nd 215 (.nd 212 (.nd 211 (.lf 210 ⟨.func,1,8,[.nilf],false,false⟩) (.lf 211 ⟨.func,1,8,[.nilf],false,false⟩)) (.nd 213 (.lf 212 ⟨.func,1,8,[.nilf],false,false⟩) (.lf 213 ⟨.func,1,8,[.nilf],false,false⟩))) (.nd 217 (.nd 216 (.lf 215 ⟨.func,1,8,[.nilf],false,false⟩) (.lf 216 ⟨.func,1,8,[.nilf],false,false⟩)) (.nd 218 (.lf 217 ⟨.func,1,8,[.nilf],false,false⟩) (.nd 219 (.lf 218 ⟨.func,1,8,[.nilf],false,false⟩) (.lf 219 ⟨.func,1,8,[.nilf],false,false⟩)))))))) (.nd 257 (.nd 239 (.nd 228 (.nd 224 (.nd 222 (.nd 221 (.lf 220 ⟨.func,1,8,[.nilf],false,false⟩) (.lf 221 ⟨.func,1,8,[.nilf],false,false⟩)) (.nd 223 (.lf 222 ⟨.pointer 130,1,8,[.nil],false,false⟩) (.lf 223 ⟨.func,1,8,[.nilf],false,false⟩))) (.nd 226 (.nd 225 (.lf 224 ⟨.pointer 2,1,8,[.nil],false,false⟩) (.lf 225 ⟨.pointer 123,1,8,[.nil],false,false⟩)) (.nd 227 (.lf 226 ⟨.pointer 132,1,8,[.nil],false,false⟩) (.lf 227 ⟨.func,1,8,[.nilf],false,false⟩)))) (.nd 235 (.nd 232 (.nd 230 (.lf 228 ⟨.pointer 21,1,8,[.nil],false,false⟩) (.lf 230 ⟨.func,1,8,[.nilf],false,false⟩)) (.nd 234 (.lf 232 ⟨.func,1,8,[.nilf],false,false⟩) (.lf 234 ⟨.func,1,8,[.nilf],false,false⟩))) (.nd 237 (.nd 236 (.lf 235 ⟨.slice 308,1,24,[.nils],false,false⟩) (.lf 236 ⟨.struct [(0,235),(1,3),(2,3),(3,3)],4,48,[.nils,.i 0,.i 0,.i 0],true,false⟩)) (.nd 238 (.lf 237 ⟨.struct [(0,235),(1,3),(2,3),(3,3)],4,48,[.nils,.i 0,.i 0,.i 0],true,false⟩) (.lf 238 ⟨.slice 325,1,24,[.nils],false,false⟩))))) (.nd 247 (.nd 243 (.nd 241 (.nd 240 (.lf 239 ⟨.map 3 3,1,8,[.nilm],false,false⟩) (.lf 240 ⟨.struct [(0,237),(4,238),(5,239)],6,80,[.nils,.i 0,.i 0,.i 0,.nils,.nilm],true,false⟩)) (.nd 242 (.lf 241 ⟨.struct [(0,237),(4,238),(5,239)],6,80,[.nils,.i 0,.i 0,.i 0,.nils,.nilm],true,false⟩) (.lf 242 ⟨.pointer 248,1,8,[.nil],false,false⟩))) (.nd 245 (.nd 244 (.lf 243 ⟨.array 256 115,256,1024,cr 256 (.w 0),true,true⟩) (.lf 244 ⟨.struct [(0,123),(3,243),(259,132),(260,134)],261,1048,[.w 0,.v 0,.w 0,.w 0,.w 0,.w 0,.w 0,.w 0,.w 0,.w 0,.w 0,.w 0,.w 0,.w 0,.w 0,.w 0,.w 0,.w 0,.w 0,.w 0,.w 0,.w 0,.w 0,.w 0,.w 0,.w 0,.w 0,.w 0,.w 0,.w 0,.w 0,.w 0,.w 0,.w 0,.w 0,.w 0,.w 0,.w 0,.w 0,.w 0,.w 0,.w 0,.w 0,.w 0,.w 0,.w 0,.w 0,.w 0,.w 0,.w 0,.w 0,.w 0,.w 0,.w 0,.w 0,.w 0,.w 0,.w 0,.w 0,.w 0,.w 0,.w 0,.w 0,.w 0,.w 0,.w 0,.w 0,.w 0,.w 0,.w 0,.w 0,.w 0,.w 0,.w 0,.w 0,.w 0,.w 0,.w 0,.w 0,.w 0,.w 0,.w 0,.w 0,.w 0,.w 0,.w 0,.w 0,.w 0,.w 0,.w 0,.w 0,.w 0,.w 0,.w 0,.w 0,.w 0,.w 0,.w 0,.w 0,.w 0,.w 0,.w 0,.w 0,.w 0,.w 0,.w 0,.w 0,.w 0,.w 0,.w 0,.w 0,.w 0,.w 0,.w 0,.w 0,.w 0,.w 0,.w 0,.w 0,.w 0,.w 0,.w 0,.w 0,.w 0,.w 0,.w 0,.w 0,.w 0,.w 0,.w 0,.w 0,.w 0,.w 0,.w 0,.w 0,.w 0,.w 0,.w 0,.w 0,.w 0,.w 0,.w 0,.w 0,.w 0,.w 0,.w 0,.w 0,.w 0,.w 0,.w 0,.w 0,.w 0,.w 0,.w 0,.w 0,.w 0,.w 0,.w 0,.w 0,.w 0,.w 0,.w 0,.w 0,.w 0,.w 0,.w 0,.w 0,.w 0,.w 0,.w 0,.w 0,.w 0,.w 0,.w 0,.w 0,.w 0,.w 0,.w 0,.w 0,.w 0,.w 0,.w 0,.w 0,.w 0,.w 0,.w 0,.w 0,.w 0,.w 0,.w 0,.w 0,.w 0,.w 0,.w 0,.w 0,.w 0,.w 0,.w 0,.w 0,.w 0,.w 0,.w 0,.w 0,.w 0,.w 0,.w 0,.w 0,.w 0,.w 0,.w 0,.w 0,.w 0,.w 0,.w 0,.w 0,.w 0,.w 0,.w 0,.w 0,.w 0,.w 0,.w 0,.w 0,.w 0,.w 0,.w 0,.w 0,.w 0,.w 0,.w 0,.w 0,.w 0,.w 0,.w 0,.w 0,.w 0,.w 0,.w 0,.w 0,.w 0,.w 0,.w 0,.w 0,.w 0,.w 0,.w 0,.w 0,.w 0,.w 0,.w 0,.w 0,.w 0,.w 0,.w 0,.w 0,.w 0,.w 0,.w 0,.w 0,.v 0,.u 0],true,false⟩)) (.nd 246 (.lf 245 ⟨.struct [(0,123),(3,243),(259,132),(260,134)],261,1048,[.w 0,.v 0,.w 0,.w 0,.w 0,.w 0,.w 0,.w 0,.w 0,.w 0,.w 0,.w 0,.w 0,.w 0,.w 0,.w 0,.w 0,.w 0,.w 0,.w 0,.w 0,.w 0,.w 0,.w 0,.w 0,.w 0,.w 0,.w 0,.w 0,.w 0,.w 0,.w 0,.w 0,.w 0,.w 0,.w 0,.w 0,.w 0,.w 0,.w 0,.w 0,.w 0,.w 0,.w 0,.w 0,.w 0,.w 0,.w 0,.w 0,.w 0,.w 0,.w 0,.w 0,.w 0,.w 0,.w 0,.w 0,.w 0,.w 0,.w 0,.w 0,.w 0,.w 0,.w 0,.w 0,.w 0,.w 0,.w 0,.w 0,.w 0,.w 0,.w 0,.w 0,.w 0,.w 0,.w 0,.w 0,.w 0,.w 0,.w 0,.w 0,.w 0,.w 0,.w 0,.w 0,.w 0,.w 0,.w 0,.w 0,.w 0,.w 0,.w 0,.w 0,.w 0,.w 0,.w 0,.w 0,.w 0,.w 0,.w 0,.w 0,.w 0,.w 0,.w 0,.w 0,.w 0,.w 0,.w 0,.w 0,.w 0,.w 0,.w 0,.w 0,.w 0,.w 0,.w 0,.w 0,.w 0,.w 0,.w 0,.w 0,.w 0,.w 0,.w 0,.w 0,.w 0,.w 0,.w 0,.w 0,.w 0,.w 0,.w 0,.w 0,.w 0,.w 0,.w 0,.w 0,.w 0,.w 0,.w 0,.w 0,.w 0,.w 0,.w 0,.w 0,.w 0,.w 0,.w 0,.w 0,.w 0,.w 0,.w 0,.w 0,.w 0,.w 0,.w 0,.w 0,.w 0,.w 0,.w 0,.w 0,.w 0,.w 0,.w 0,.w 0,.w 0,.w 0,.w 0,.w 0,.w 0,.w 0,.w 0,.w 0,.w 0,.w 0,.w 0,.w 0,.w 0,.w 0,.w 0,.w 0,.w 0,.w 0,.w 0,.w 0,.w 0,.w 0,.w 0,.w 0,.w 0,.w 0,.w 0,.w 0,.w 0,.w 0,.w 0,.w 0,.w 0,.w 0,.w 0,.w 0,.w 0,.w 0,.w 0,.w 0,.w 0,.w 0,.w 0,.w 0,.w 0,.w 0,.w 0,.w 0,.w 0,.w 0,.w 0,.w 0,.w 0,.w 0,.w 0,.w 0,.w 0,.w 0,.w 0,.w 0,.w 0,.w 0,.w 0,.w 0,.w 0,.w 0,.w 0,.w 0,.w 0,.w 0,.w 0,.w 0,.w 0,.w 0,.w 0,.w 0,.w 0,.w 0,.w 0,.w 0,.w 0,.w 0,.w 0,.w 0,.w 0,.w 0,.w 0,.w 0,.w 0,.w 0,.w 0,.w 0,.w 0,.w 0,.v 0,.u 0],true,false⟩) (.lf 246 ⟨.slice 329,1,24,[.nils],false,false⟩)))) (.nd 251 (.nd 249 (.nd 248 (.lf 247 ⟨.struct [(0,237),(4,238),(5,193),(6,22),(7,33),(10,3),(11,3),(12,3),(13,3),(14,48),(15,246),(16,67),(17,169),(18,48),(19,169),(20,27)],22,320,[.nils,.i 0,.i 0,.i 0,.nils,.nil,.nils,.i 0,.i 0,.i 0,.i 0,.i 0,.i 0,.i 0,.nils,.nils,.nils,.nils,.nils,.nils,.i 0,.i 0],true,false⟩) (.lf 248 ⟨.struct [(0,237),(4,238),(5,193),(6,22),(7,33),(10,3),(11,3),(12,3),(13,3),(14,48),(15,246),(16,67),(17,169),(18,48),(19,169),(20,27)],22,320,[.nils,.i 0,.i 0,.i 0,.nils,.nil,.nils,.i 0,.i 0,.i 0,.i 0,.i 0,.i 0,.i 0,.nils,.nils,.nils,.nils,.nils,.nils,.i 0,.i 0],true,false⟩)) (.nd 250 (.lf 249 ⟨.func,1,8,[.nilf],false,false⟩) (.lf 250 ⟨.func,1,8,[.nilf],false,false⟩))) (.nd 253 (.nd 252 (.lf 251 ⟨.pointer 253,1,8,[.nil],false,false⟩) (.lf 252 ⟨.struct [(0,192),(1,3),(2,27)],4,32,[.nil,.i 0,.i 0,.i 0],true,false⟩)) (.nd 255 (.lf 253 ⟨.struct [(0,192),(1,3),(2,27)],4,32,[.nil,.i 0,.i 0,.i 0],true,false⟩) (.nd 256 (.lf 255 ⟨.func,1,8,[.nilf],false,false⟩) (.lf 256 ⟨.map 3 325,1,8,[.nilm],false,false⟩))))))) (.nd 276 (.nd 266 (.nd 261 (.nd 259 (.nd 258 (.lf 257 ⟨.struct [(0,55),(2,256)],3,56,[.nils,.nils,.nilm],true,false⟩) (.lf 258 ⟨.struct [(0,55),(2,256)],3,56,[.nils,.nils,.nilm],true,false⟩)) (.nd 260 (.lf 259 ⟨.func,1,8,[.nilf],false,false⟩) (.lf 260 ⟨.struct [(0,22),(1,3)],2,32,[.nils,.i 0],true,false⟩))) (.nd 263 (.nd 262 (.lf 261 ⟨.struct [(0,22),(1,3)],2,32,[.nils,.i 0],true,false⟩) (.lf 262 ⟨.slice 349,1,24,[.nils],false,false⟩)) (.nd 265 (.lf 263 ⟨.func,1,8,[.nilf],false,false⟩) (.lf 265 ⟨.func,1,8,[.nilf],false,false⟩)))) (.nd 270 (.nd 268 (.nd 267 (.lf 266 ⟨.func,1,8,[.nilf],false,false⟩) (.lf 267 ⟨.func,1,8,[.nilf],false,false⟩)) (.nd 269 (.lf 268 ⟨.func,1,8,[.nilf],false,false⟩) (.lf 269 ⟨.func,1,8,[.nilf],false,false⟩))) (.nd 272 (.nd 271 (.lf 270 ⟨.func,1,8,[.nilf],false,false⟩) (.lf 271 ⟨.array 256 5,256,256,cr 256 (.b 0),true,true⟩)) (.nd 273 (.lf 272 ⟨.func,1,8,[.nilf],false,false⟩) (.nd 275 (.lf 273 ⟨.func,1,8,[.nilf],false,false⟩) (.lf 275 ⟨.func,1,8,[.nilf],false,false⟩)))))) (.nd 284 (.nd 280 (.nd 278 (.nd 277 (.lf 276 ⟨.func,1,8,[.nilf],false,false⟩) (.lf 277 ⟨.func,1,8,[.nilf],false,false⟩)) (.nd 279 (.lf 278 ⟨.func,1,8,[.nilf],false,false⟩) (.lf 279 ⟨.func,1,8,[.nilf],false,false⟩))) (.nd 282 (.nd 281 (.lf 280 ⟨.func,1,8,[.nilf],false,false⟩) (.lf 281 ⟨.func,1,8,[.nilf],false,false⟩)) (.nd 283 (.lf 282 ⟨.pointer 117,1,8,[.nil],false,false⟩) (.lf 283 ⟨.func,1,8,[.nilf],false,false⟩)))) (.nd 290 (.nd 286 (.nd 285 (.lf 284 ⟨.pointer 115,1,8,[.nil],false,false⟩) (.lf 285 ⟨.func,1,8,[.nilf],false,false⟩)) (.nd 288 (.lf 286 ⟨.slice 425,1,24,[.nils],false,false⟩) (.lf 288 ⟨.func,1,8,[.nilf],false,false⟩))) (.nd 293 (.nd 291 (.lf 290 ⟨.func,1,8,[.nilf],false,false⟩) (.lf 291 ⟨.slice 303,1,24,[.nils],false,false⟩)) (.nd 294 (.lf 293 ⟨.func,1,8,[.nilf],false,false⟩) (.nd 295 (.lf 294 ⟨.pointer 301,1,8,[.nil],false,false⟩) (.lf 295 ⟨.map 3 303,1,8,[.nilm],false,false⟩)))))))))) (.nd 437 (.nd 365 (.nd 331 (.nd 314 (.nd 304 (.nd 300 (.nd 298 (.nd 297 (.lf 296 ⟨.map 9 3,1,8,[.nilm],false,false⟩) (.lf 297 ⟨.map 3 9,1,8,[.nilm],false,false⟩)) (.nd 299 (.lf 298 ⟨.struct [(0,237),(4,4)],5,56,[.nils,.i 0,.i 0,.i 0,.bool false],true,false⟩) (.lf 299 ⟨.struct [(0,237),(4,4)],5,56,[.nils,.i 0,.i 0,.i 0,.bool false],true,false⟩))) (.nd 302 (.nd 301 (.lf 300 ⟨.struct [(0,299),(5,55),(7,286),(8,256),(9,238),(10,239),(11,295),(12,296),(13,297)],14,192,[.nils,.i 0,.i 0,.i 0,.bool false,.nils,.nils,.nils,.nilm,.nils,.nilm,.nilm,.nilm,.nilm],true,false⟩) (.lf 301 ⟨.struct [(0,299),(5,55),(7,286),(8,256),(9,238),(10,239),(11,295),(12,296),(13,297)],14,192,[.nils,.i 0,.i 0,.i 0,.bool false,.nils,.nils,.nils,.nilm,.nils,.nilm,.nilm,.nilm,.nilm],true,false⟩)) (.nd 303 (.lf 302 ⟨.struct [(0,3),(1,3),(2,3)],3,24,[.i 0,.i 0,.i 0],true,true⟩) (.lf 303 ⟨.struct [(0,3),(1,3),(2,3)],3,24,[.i 0,.i 0,.i 0],true,true⟩)))) (.nd 308 (.nd 306 (.nd 305 (.lf 304 ⟨.func,1,8,[.nilf],false,false⟩) (.lf 305 ⟨.func,1,8,[.nilf],false,false⟩)) (.nd 307 (.lf 306 ⟨.slice 430,1,24,[.nils],false,false⟩) (.lf 307 ⟨.struct [(0,3),(1,3),(2,3),(3,4),(4,40),(5,40),(6,40),(7,40),(8,306),(9,271)],265,344,[.i 0,.i 0,.i 0,.bool false,.u 0,.u 0,.u 0,.u 0,.nils,.b 0,.b 0,.b 0,.b 0,.b 0,.b 0,.b 0,.b 0,.b 0,.b 0,.b 0,.b 0,.b 0,.b 0,.b 0,.b 0,.b 0,.b 0,.b 0,.b 0,.b 0,.b 0,.b 0,.b 0,.b 0,.b 0,.b 0,.b 0,.b 0,.b 0,.b 0,.b 0,.b 0,.b 0,.b 0,.b 0,.b 0,.b 0,.b 0,.b 0,.b 0,.b 0,.b 0,.b 0,.b 0,.b 0,.b 0,.b 0,.b 0,.b 0,.b 0,.b 0,.b 0,.b 0,.b 0,.b 0,.b 0,.b 0,.b 0,.b 0,.b 0,.b 0,.b 0,.b 0,.b 0,.b 0,.b 0,.b 0,.b 0,.b 0,.b 0,.b 0,.b 0,.b 0,.b 0,.b 0,.b 0,.b 0,.b 0,.b 0,.b 0,.b 0,.b 0,.b 0,.b 0,.b 0,.b 0,.b 0,.b 0,.b 0,.b 0,.b 0,.b 0,.b 0,.b 0,.b 0,.b 0,.b 0,.b 0,.b 0,.b 0,.b 0,.b 0,.b 0,.b 0,.b 0,.b 0,.b 0,.b 0,.b 0,.b 0,.b 0,.b 0,.b 0,.b 0,.b 0,.b 0,.b 0,.b 0,.b 0,.b 0,.b 0,.b 0,.b 0,.b 0,.b 0,.b 0,.b 0,.b 0,.b 0,.b 0,.b 0,.b 0,.b 0,.b 0,.b 0,.b 0,.b 0,.b 0,.b 0,.b 0,.b 0,.b 0,.b 0,.b 0,.b 0,.b 0,.b 0,.b 0,.b 0,.b 0,.b 0,.b 0,.b 0,.b 0,.b 0,.b 0,.b 0,.b 0,.b 0,.b 0,.b 0,.b 0,.b 0,.b 0,.b 0,.b 0,.b 0,.b 0,.b 0,.b 0,.b 0,.b 0,.b 0,.b 0,.b 0,.b 0,.b 0,.b 0,.b 0,.b 0,.b 0,.b 0,.b 0,.b 0,.b 0,.b 0,.b 0,.b 0,.b 0,.b 0,.b 0,.b 0,.b 0,.b 0,.b 0,.b 0,.b 0,.b 0,.b 0,.b 0,.b 0,.b 0,.b 0,.b 0,.b 0,.b 0,.b 0,.b 0,.b 0,.b 0,.b 0,.b 0,.b 0,.b 0,.b 0,.b 0,.b 0,.b 0,.b 0,.b 0,.b 0,.b 0,.b 0,.b 0,.b 0,.b 0,.b 0,.b 0,.b 0,.b 0,.b 0,.b 0,.b 0,.b 0,.b 0,.b 0,.b 0,.b 0,.b 0,.b 0,.b 0,.b 0,.b 0,.b 0,.b 0,.b 0,.b 0,.b 0,.b 0,.b 0,.b 0,.b 0,.b 0,.b 0,.b 0],true,false⟩))) (.nd 311 (.nd 309 (.lf 308 ⟨.struct [(0,3),(1,3),(2,3),(3,4),(4,40),(5,40),(6,40),(7,40),(8,306),(9,271)],265,344,[.i 0,.i 0,.i 0,.bool false,.u 0,.u 0,.u 0,.u 0,.nils,.b 0,.b 0,.b 0,.b 0,.b 0,.b 0,.b 0,.b 0,.b 0,.b 0,.b 0,.b 0,.b 0,.b 0,.b 0,.b 0,.b 0,.b 0,.b 0,.b 0,.b 0,.b 0,.b 0,.b 0,.b 0,.b 0,.b 0,.b 0,.b 0,.b 0,.b 0,.b 0,.b 0,.b 0,.b 0,.b 0,.b 0,.b 0,.b 0,.b 0,.b 0,.b 0,.b 0,.b 0,.b 0,.b 0,.b 0,.b 0,.b 0,.b 0,.b 0,.b 0,.b 0,.b 0,.b 0,.b 0,.b 0,.b 0,.b 0,.b 0,.b 0,.b 0,.b 0,.b 0,.b 0,.b 0,.b 0,.b 0,.b 0,.b 0,.b 0,.b 0,.b 0,.b 0,.b 0,.b 0,.b 0,.b 0,.b 0,.b 0,.b 0,.b 0,.b 0,.b 0,.b 0,.b 0,.b 0,.b 0,.b 0,.b 0,.b 0,.b 0,.b 0,.b 0,.b 0,.b 0,.b 0,.b 0,.b 0,.b 0,.b 0,.b 0,.b 0,.b 0,.b 0,.b 0,.b 0,.b 0,.b 0,.b 0,.b 0,.b 0,.b 0,.b 0,.b 0,.b 0,.b 0,.b 0,.b 0,.b 0,.b 0,.b 0,.b 0,.b 0,.b 0,.b 0,.b 0,.b 0,.b 0,.b 0,.b 0,.b 0,.b 0,.b 0,.b 0,.b 0,.b 0,.b 0,.b 0,.b 0,.b 0,.b 0,.b 0,.b 0,.b 0,.b 0,.b 0,.b 0,.b 0,.b 0,.b 0,.b 0,.b 0,.b 0,.b 0,.b 0,.b 0,.b 0,.b 0,.b 0,.b 0,.b 0,.b 0,.b 0,.b 0,.b 0,.b 0,.b 0,.b 0,.b 0,.b 0,.b 0,.b 0,.b 0,.b 0,.b 0,.b 0,.b 0,.b 0,.b 0,.b 0,.b 0,.b 0,.b 0,.b 0,.b 0,.b 0,.b 0,.b 0,.b 0,.b 0,.b 0,.b 0,.b 0,.b 0,.b 0,.b 0,.b 0,.b 0,.b 0,.b 0,.b 0,.b 0,.b 0,.b 0,.b 0,.b 0,.b 0,.b 0,.b 0,.b 0,.b 0,.b 0,.b 0,.b 0,.b 0,.b 0,.b 0,.b 0,.b 0,.b 0,.b 0,.b 0,.b 0,.b 0,.b 0,.b 0,.b 0,.b 0,.b 0,.b 0,.b 0,.b 0,.b 0,.b 0,.b 0,.b 0,.b 0,.b 0,.b 0,.b 0,.b 0,.b 0,.b 0,.b 0,.b 0,.b 0,.b 0,.b 0,.b 0,.b 0,.b 0,.b 0,.b 0,.b 0,.b 0],true,false⟩) (.lf 309 ⟨.func,1,8,[.nilf],false,false⟩)) (.nd 313 (.lf 311 ⟨.func,1,8,[.nilf],false,false⟩) (.lf 313 ⟨.func,1,8,[.nilf],false,false⟩))))) (.nd 322 (.nd 318 (.nd 316 (.nd 315 (.lf 314 ⟨.func,1,8,[.nilf],false,false⟩) (.lf 315 ⟨.pointer 317,1,8,[.nil],false,false⟩)) (.nd 317 (.lf 316 ⟨.struct [(0,55),(2,48)],3,72,[.nils,.nils,.nils],true,false⟩) (.lf 317 ⟨.struct [(0,55),(2,48)],3,72,[.nils,.nils,.nils],true,false⟩))) (.nd 320 (.nd 319 (.lf 318 ⟨.slice 378,1,24,[.nils],false,false⟩) (.lf 319 ⟨.func,1,8,[.nilf],false,false⟩)) (.nd 321 (.lf 320 ⟨.func,1,8,[.nilf],false,false⟩) (.lf 321 ⟨.func,1,8,[.nilf],false,false⟩)))) (.nd 326 (.nd 324 (.nd 323 (.lf 322 ⟨.func,1,8,[.nilf],false,false⟩) (.lf 323 ⟨.func,1,8,[.nilf],false,false⟩)) (.nd 325 (.lf 324 ⟨.func,1,8,[.nilf],false,false⟩) (.lf 325 ⟨.pointer 437,1,8,[.nil],false,false⟩))) (.nd 328 (.nd 327 (.lf 326 ⟨.func,1,8,[.nilf],false,false⟩) (.lf 327 ⟨.func,1,8,[.nilf],false,false⟩)) (.nd 329 (.lf 328 ⟨.struct [(0,3),(1,3)],2,16,[.i 0,.i 0],true,true⟩) (.nd 330 (.lf 329 ⟨.struct [(0,3),(1,3)],2,16,[.i 0,.i 0],true,true⟩) (.lf 330 ⟨.func,1,8,[.nilf],false,false⟩))))))) (.nd 347 (.nd 339 (.nd 335 (.nd 333 (.nd 332 (.lf 331 ⟨.func,1,8,[.nilf],false,false⟩) (.lf 332 ⟨.pointer 134,1,8,[.nil],false,false⟩)) (.nd 334 (.lf 333 ⟨.func,1,8,[.nilf],false,false⟩) (.lf 334 ⟨.pointer 40,1,8,[.nil],false,false⟩))) (.nd 337 (.nd 336 (.lf 335 ⟨.slice 398,1,24,[.nils],false,false⟩) (.lf 336 ⟨.func,1,8,[.nilf],false,false⟩)) (.nd 338 (.lf 337 ⟨.func,1,8,[.nilf],false,false⟩) (.lf 338 ⟨.func,1,8,[.nilf],false,false⟩)))) (.nd 343 (.nd 341 (.nd 340 (.lf 339 ⟨.func,1,8,[.nilf],false,false⟩) (.lf 340 ⟨.func,1,8,[.nilf],false,false⟩)) (.nd 342 (.lf 341 ⟨.func,1,8,[.nilf],false,false⟩) (.lf 342 ⟨.func,1,8,[.nilf],false,false⟩))) (.nd 345 (.nd 344 (.lf 343 ⟨.func,1,8,[.nilf],false,false⟩) (.lf 344 ⟨.slice 345,1,24,[.nils],false,false⟩)) (.nd 346 (.lf 345 ⟨.array 2 3,2,16,[.i 0,.i 0],true,true⟩) (.lf 346 ⟨.func,1,8,[.nilf],false,false⟩))))) (.nd 355 (.nd 351 (.nd 349 (.nd 348 (.lf 347 ⟨.func,1,8,[.nilf],false,false⟩) (.lf 348 ⟨.struct [(0,9),(1,40)],2,24,[.str [],.u 0],true,true⟩)) (.nd 350 (.lf 349 ⟨.struct [(0,9),(1,40)],2,24,[.str [],.u 0],true,true⟩) (.lf 350 ⟨.slice 352,1,24,[.nils],false,false⟩))) (.nd 353 (.nd 352 (.lf 351 ⟨.struct [(0,3),(1,3)],2,16,[.i 0,.i 0],true,true⟩) (.lf 352 ⟨.struct [(0,3),(1,3)],2,16,[.i 0,.i 0],true,true⟩)) (.nd 354 (.lf 353 ⟨.func,1,8,[.nilf],false,false⟩) (.lf 354 ⟨.pointer 408,1,8,[.nil],false,false⟩)))) (.nd 359 (.nd 357 (.nd 356 (.lf 355 ⟨.func,1,8,[.nilf],false,false⟩) (.lf 356 ⟨.func,1,8,[.nilf],false,false⟩)) (.nd 358 (.lf 357 ⟨.pointer 121,1,8,[.nil],false,false⟩) (.lf 358 ⟨.func,1,8,[.nilf],false,false⟩))) (.nd 362 (.nd 360 (.lf 359 ⟨.func,1,8,[.nilf],false,false⟩) (.lf 360 ⟨.pointer 364,1,8,[.nil],false,false⟩)) (.nd 363 (.lf 362 ⟨.func,1,8,[.nilf],false,false⟩) (.nd 364 (.lf 363 ⟨.struct [(0,55),(2,286),(3,170),(4,256),(5,27)],7,120,[.nils,.nils,.nils,.nils,.nilm,.i 0,.i 0],true,false⟩) (.lf 364 ⟨.struct [(0,55),(2,286),(3,170),(4,256),(5,27)],7,120,[.nils,.nils,.nils,.nils,.nilm,.i 0,.i 0],true,false⟩)))))))) (.nd 400 (.nd 383 (.nd 375 (.nd 371 (.nd 369 (.nd 367 (.lf 365 ⟨.pointer 370,1,8,[.nil],false,false⟩) (.lf 367 ⟨.func,1,8,[.nilf],false,false⟩)) (.nd 370 (.lf 369 ⟨.struct [(0,55),(2,295)],3,56,[.nils,.nils,.nilm],true,false⟩) (.lf 370 ⟨.struct [(0,55),(2,295)],3,56,[.nils,.nils,.nilm],true,false⟩))) (.nd 373 (.nd 372 (.lf 371 ⟨.func,1,8,[.nilf],false,false⟩) (.lf 372 ⟨.func,1,8,[.nilf],false,false⟩)) (.nd 374 (.lf 373 ⟨.func,1,8,[.nilf],false,false⟩) (.lf 374 ⟨.pointer 299,1,8,[.nil],false,false⟩)))) (.nd 379 (.nd 377 (.nd 376 (.lf 375 ⟨.func,1,8,[.nilf],false,false⟩) (.lf 376 ⟨.func,1,8,[.nilf],false,false⟩)) (.nd 378 (.lf 377 ⟨.func,1,8,[.nilf],false,false⟩) (.lf 378 ⟨.array 3 3,3,24,[.i 0,.i 0,.i 0],true,true⟩))) (.nd 381 (.nd 380 (.lf 379 ⟨.func,1,8,[.nilf],false,false⟩) (.lf 380 ⟨.pointer 69,1,8,[.nil],false,false⟩)) (.nd 382 (.lf 381 ⟨.func,1,8,[.nilf],false,false⟩) (.lf 382 ⟨.func,1,8,[.nilf],false,false⟩))))) (.nd 391 (.nd 387 (.nd 385 (.nd 384 (.lf 383 ⟨.func,1,8,[.nilf],false,false⟩) (.lf 384 ⟨.func,1,8,[.nilf],false,false⟩)) (.nd 386 (.lf 385 ⟨.func,1,8,[.nilf],false,false⟩) (.lf 386 ⟨.func,1,8,[.nilf],false,false⟩))) (.nd 389 (.nd 388 (.lf 387 ⟨.struct [(0,115)],1,4,[.w 0],true,true⟩) (.lf 388 ⟨.struct [(0,115)],1,4,[.w 0],true,true⟩)) (.nd 390 (.lf 389 ⟨.func,1,8,[.nilf],false,false⟩) (.lf 390 ⟨.func,1,8,[.nilf],false,false⟩)))) (.nd 395 (.nd 393 (.nd 392 (.lf 391 ⟨.func,1,8,[.nilf],false,false⟩) (.lf 392 ⟨.func,1,8,[.nilf],false,false⟩)) (.nd 394 (.lf 393 ⟨.func,1,8,[.nilf],false,false⟩) (.lf 394 ⟨.func,1,8,[.nilf],false,false⟩))) (.nd 397 (.nd 396 (.lf 395 ⟨.func,1,8,[.nilf],false,false⟩) (.lf 396 ⟨.func,1,8,[.nilf],false,false⟩)) (.nd 398 (.lf 397 ⟨.struct [(0,9),(1,40)],2,24,[.str [],.u 0],true,true⟩) (.nd 399 (.lf 398 ⟨.struct [(0,9),(1,40)],2,24,[.str [],.u 0],true,true⟩) (.lf 399 ⟨.map 3 401,1,8,[.nilm],false,false⟩))))))) (.nd 418 (.nd 409 (.nd 405 (.nd 403 (.nd 401 (.lf 400 ⟨.struct [(0,69),(4,3),(5,3)],6,80,[.u 0,.bool false,.nils,.nils,.i 0,.i 0],true,false⟩) (.lf 401 ⟨.struct [(0,69),(4,3),(5,3)],6,80,[.u 0,.bool false,.nils,.nils,.i 0,.i 0],true,false⟩)) (.nd 404 (.lf 403 ⟨.func,1,8,[.nilf],false,false⟩) (.lf 404 ⟨.func,1,8,[.nilf],false,false⟩))) (.nd 407 (.nd 406 (.lf 405 ⟨.slice 411,1,24,[.nils],false,false⟩) (.lf 406 ⟨.slice 414,1,24,[.nils],false,false⟩)) (.nd 408 (.lf 407 ⟨.struct [(0,405),(1,406),(2,3)],3,56,[.nils,.nils,.i 0],true,false⟩) (.lf 408 ⟨.struct [(0,405),(1,406),(2,3)],3,56,[.nils,.nils,.i 0],true,false⟩)))) (.nd 413 (.nd 411 (.nd 410 (.lf 409 ⟨.int .u16,1,2,[.int 65535 0],false,true⟩) (.lf 410 ⟨.struct [(0,409),(1,409),(2,409)],3,6,[.int 65535 0,.int 65535 0,.int 65535 0],true,true⟩)) (.nd 412 (.lf 411 ⟨.struct [(0,409),(1,409),(2,409)],3,6,[.int 65535 0,.int 65535 0,.int 65535 0],true,true⟩) (.lf 412 ⟨.func,1,8,[.nilf],false,false⟩))) (.nd 415 (.nd 414 (.lf 413 ⟨.struct [(0,115),(1,115),(2,115)],3,12,[.w 0,.w 0,.w 0],true,true⟩) (.lf 414 ⟨.struct [(0,115),(1,115),(2,115)],3,12,[.w 0,.w 0,.w 0],true,true⟩)) (.nd 416 (.lf 415 ⟨.func,1,8,[.nilf],false,false⟩) (.nd 417 (.lf 416 ⟨.func,1,8,[.nilf],false,false⟩) (.lf 417 ⟨.pointer 119,1,8,[.nil],false,false⟩)))))) (.nd 427 (.nd 423 (.nd 421 (.nd 419 (.lf 418 ⟨.func,1,8,[.nilf],false,false⟩) (.lf 419 ⟨.func,1,8,[.nilf],false,false⟩)) (.nd 422 (.lf 421 ⟨.func,1,8,[.nilf],false,false⟩) (.lf 422 ⟨.array 4 40,4,32,[.u 0,.u 0,.u 0,.u 0],true,true⟩))) (.nd 425 (.nd 424 (.lf 423 ⟨.array 4 40,4,32,[.u 0,.u 0,.u 0,.u 0],true,true⟩) (.lf 424 ⟨.struct [(0,423),(4,4),(5,4)],6,40,[.u 0,.u 0,.u 0,.u 0,.bool false,.bool false],true,true⟩)) (.nd 426 (.lf 425 ⟨.struct [(0,423),(4,4),(5,4)],6,40,[.u 0,.u 0,.u 0,.u 0,.bool false,.bool false],true,true⟩) (.lf 426 ⟨.func,1,8,[.nilf],false,false⟩)))) (.nd 432 (.nd 430 (.nd 429 (.lf 427 ⟨.func,1,8,[.nilf],false,false⟩) (.lf 429 ⟨.struct [(0,40),(1,3)],2,16,[.u 0,.i 0],true,true⟩)) (.nd 431 (.lf 430 ⟨.struct [(0,40),(1,3)],2,16,[.u 0,.i 0],true,true⟩) (.lf 431 ⟨.func,1,8,[.nilf],false,false⟩))) (.nd 434 (.nd 433 (.lf 432 ⟨.func,1,8,[.nilf],false,false⟩) (.lf 433 ⟨.func,1,8,[.nilf],false,false⟩)) (.nd 435 (.lf 434 ⟨.func,1,8,[.nilf],false,false⟩) (.nd 436 (.lf 435 ⟨.slice 169,1,24,[.nils],false,false⟩) (.lf 436 ⟨.struct [(0,271),(256,435),(257,170)],258,304,[.b 0,.b 0,.b 0,.b 0,.b 0,.b 0,.b 0,.b 0,.b 0,.b 0,.b 0,.b 0,.b 0,.b 0,.b 0,.b 0,.b 0,.b 0,.b 0,.b 0,.b 0,.b 0,.b 0,.b 0,.b 0,.b 0,.b 0,.b 0,.b 0,.b 0,.b 0,.b 0,.b 0,.b 0,.b 0,.b 0,.b 0,.b 0,.b 0,.b 0,.b 0,.b 0,.b 0,.b 0,.b 0,.b 0,.b 0,.b 0,.b 0,.b 0,.b 0,.b 0,.b 0,.b 0,.b 0,.b 0,.b 0,.b 0,.b 0,.b 0,.b 0,.b 0,.b 0,.b 0,.b 0,.b 0,.b 0,.b 0,.b 0,.b 0,.b 0,.b 0,.b 0,.b 0,.b 0,.b 0,.b 0,.b 0,.b 0,.b 0,.b 0,.b 0,.b 0,.b 0,.b 0,.b 0,.b 0,.b 0,.b 0,.b 0,.b 0,.b 0,.b 0,.b 0,.b 0,.b 0,.b 0,.b 0,.b 0,.b 0,.b 0,.b 0,.b 0,.b 0,.b 0,.b 0,.b 0,.b 0,.b 0,.b 0,.b 0,.b 0,.b 0,.b 0,.b 0,.b 0,.b 0,.b 0,.b 0,.b 0,.b 0,.b 0,.b 0,.b 0,.b 0,.b 0,.b 0,.b 0,.b 0,.b 0,.b 0,.b 0,.b 0,.b 0,.b 0,.b 0,.b 0,.b 0,.b 0,.b 0,.b 0,.b 0,.b 0,.b 0,.b 0,.b 0,.b 0,.b 0,.b 0,.b 0,.b 0,.b 0,.b 0,.b 0,.b 0,.b 0,.b 0,.b 0,.b 0,.b 0,.b 0,.b 0,.b 0,.b 0,.b 0,.b 0,.b 0,.b 0,.b 0,.b 0,.b 0,.b 0,.b 0,.b 0,.b 0,.b 0,.b 0,.b 0,.b 0,.b 0,.b 0,.b 0,.b 0,.b 0,.b 0,.b 0,.b 0,.b 0,.b 0,.b 0,.b 0,.b 0,.b 0,.b 0,.b 0,.b 0,.b 0,.b 0,.b 0,.b 0,.b 0,.b 0,.b 0,.b 0,.b 0,.b 0,.b 0,.b 0,.b 0,.b 0,.b 0,.b 0,.b 0,.b 0,.b 0,.b 0,.b 0,.b 0,.b 0,.b 0,.b 0,.b 0,.b 0,.b 0,.b 0,.b 0,.b 0,.b 0,.b 0,.b 0,.b 0,.b 0,.b 0,.b 0,.b 0,.b 0,.b 0,.b 0,.b 0,.b 0,.b 0,.b 0,.b 0,.b 0,.b 0,.b 0,.b 0,.b 0,.b 0,.b 0,.b 0,.b 0,.b 0,.b 0,.b 0,.b 0,.nils,.nils],true,false⟩))))))))) (.nd 514 (.nd 476 (.nd 455 (.nd 446 (.nd 442 (.nd 439 (.nd 438 (.lf 437 ⟨.struct [(0,271),(256,435),(257,170)],258,304,[.b 0,.b 0,.b 0,.b 0,.b 0,.b 0,.b 0,.b 0,.b 0,.b 0,.b 0,.b 0,.b 0,.b 0,.b 0,.b 0,.b 0,.b 0,.b 0,.b 0,.b 0,.b 0,.b 0,.b 0,.b 0,.b 0,.b 0,.b 0,.b 0,.b 0,.b 0,.b 0,.b 0,.b 0,.b 0,.b 0,.b 0,.b 0,.b 0,.b 0,.b 0,.b 0,.b 0,.b 0,.b 0,.b 0,.b 0,.b 0,.b 0,.b 0,.b 0,.b 0,.b 0,.b 0,.b 0,.b 0,.b 0,.b 0,.b 0,.b 0,.b 0,.b 0,.b 0,.b 0,.b 0,.b 0,.b 0,.b 0,.b 0,.b 0,.b 0,.b 0,.b 0,.b 0,.b 0,.b 0,.b 0,.b 0,.b 0,.b 0,.b 0,.b 0,.b 0,.b 0,.b 0,.b 0,.b 0,.b 0,.b 0,.b 0,.b 0,.b 0,.b 0,.b 0,.b 0,.b 0,.b 0,.b 0,.b 0,.b 0,.b 0,.b 0,.b 0,.b 0,.b 0,.b 0,.b 0,.b 0,.b 0,.b 0,.b 0,.b 0,.b 0,.b 0,.b 0,.b 0,.b 0,.b 0,.b 0,.b 0,.b 0,.b 0,.b 0,.b 0,.b 0,.b 0,.b 0,.b 0,.b 0,.b 0,.b 0,.b 0,.b 0,.b 0,.b 0,.b 0,.b 0,.b 0,.b 0,.b 0,.b 0,.b 0,.b 0,.b 0,.b 0,.b 0,.b 0,.b 0,.b 0,.b 0,.b 0,.b 0,.b 0,.b 0,.b 0,.b 0,.b 0,.b 0,.b 0,.b 0,.b 0,.b 0,.b 0,.b 0,.b 0,.b 0,.b 0,.b 0,.b 0,.b 0,.b 0,.b 0,.b 0,.b 0,.b 0,.b 0,.b 0,.b 0,.b 0,.b 0,.b 0,.b 0,.b 0,.b 0,.b 0,.b 0,.b 0,.b 0,.b 0,.b 0,.b 0,.b 0,.b 0,.b 0,.b 0,.b 0,.b 0,.b 0,.b 0,.b 0,.b 0,.b 0,.b 0,.b 0,.b 0,.b 0,.b 0,.b 0,.b 0,.b 0,.b 0,.b 0,.b 0,.b 0,.b 0,.b 0,.b 0,.b 0,.b 0,.b 0,.b 0,.b 0,.b 0,.b 0,.b 0,.b 0,.b 0,.b 0,.b 0,.b 0,.b 0,.b 0,.b 0,.b 0,.b 0,.b 0,.b 0,.b 0,.b 0,.b 0,.b 0,.b 0,.b 0,.b 0,.b 0,.b 0,.b 0,.b 0,.b 0,.b 0,.b 0,.b 0,.b 0,.b 0,.b 0,.b 0,.nils,.nils],true,false⟩) (.lf 438 ⟨.func,1,8,[.nilf],false,false⟩)) (.nd 440 (.lf 439 ⟨.func,1,8,[.nilf],false,false⟩) (.lf 440 ⟨.func,1,8,[.nilf],false,false⟩))) (.nd 444 (.nd 443 (.lf 442 ⟨.func,1,8,[.nilf],false,false⟩) (.lf 443 ⟨.func,1,8,[.nilf],false,false⟩)) (.nd 445 (.lf 444 ⟨.pointer 411,1,8,[.nil],false,false⟩) (.lf 445 ⟨.pointer 414,1,8,[.nil],false,false⟩)))) (.nd 451 (.nd 448 (.nd 447 (.lf 446 ⟨.func,1,8,[.nilf],false,false⟩) (.lf 447 ⟨.array 24 5,24,24,cr 24 (.b 0),true,true⟩)) (.nd 450 (.lf 448 ⟨.func,1,8,[.nilf],false,false⟩) (.lf 450 ⟨.func,1,8,[.nilf],false,false⟩))) (.nd 453 (.nd 452 (.lf 451 ⟨.func,1,8,[.nilf],false,false⟩) (.lf 452 ⟨.pointer 454,1,8,[.nil],false,false⟩)) (.nd 454 (.lf 453 ⟨.struct [(0,55),(2,296)],3,56,[.nils,.nils,.nilm],true,false⟩) (.lf 454 ⟨.struct [(0,55),(2,296)],3,56,[.nils,.nils,.nilm],true,false⟩))))) (.nd 466 (.nd 459 (.nd 457 (.nd 456 (.lf 455 ⟨.func,1,8,[.nilf],false,false⟩) (.lf 456 ⟨.slice 459,1,24,[.nils],false,false⟩)) (.nd 458 (.lf 457 ⟨.array 2 9,2,32,[.str [],.str []],true,true⟩) (.lf 458 ⟨.struct [(0,9),(1,3),(2,3),(3,4)],4,40,[.str [],.i 0,.i 0,.bool false],true,true⟩))) (.nd 462 (.nd 461 (.lf 459 ⟨.struct [(0,9),(1,3),(2,3),(3,4)],4,40,[.str [],.i 0,.i 0,.bool false],true,true⟩) (.lf 461 ⟨.func,1,8,[.nilf],false,false⟩)) (.nd 464 (.lf 462 ⟨.pointer 308,1,8,[.nil],false,false⟩) (.lf 464 ⟨.func,1,8,[.nilf],false,false⟩)))) (.nd 471 (.nd 468 (.nd 467 (.lf 466 ⟨.func,1,8,[.nilf],false,false⟩) (.lf 467 ⟨.func,1,8,[.nilf],false,false⟩)) (.nd 470 (.lf 468 ⟨.func,1,8,[.nilf],false,false⟩) (.lf 470 ⟨.func,1,8,[.nilf],false,false⟩))) (.nd 473 (.nd 472 (.lf 471 ⟨.func,1,8,[.nilf],false,false⟩) (.lf 472 ⟨.array 20 40,20,160,cr 20 (.u 0),true,true⟩)) (.nd 474 (.lf 473 ⟨.array 65 5,65,65,cr 65 (.b 0),true,true⟩) (.nd 475 (.lf 474 ⟨.func,1,8,[.nilf],false,false⟩) (.lf 475 ⟨.func,1,8,[.nilf],false,false⟩))))))) (.nd 495 (.nd 484 (.nd 480 (.nd 478 (.nd 477 (.lf 476 ⟨.func,1,8,[.nilf],false,false⟩) (.lf 477 ⟨.func,1,8,[.nilf],false,false⟩)) (.nd 479 (.lf 478 ⟨.func,1,8,[.nilf],false,false⟩) (.lf 479 ⟨.func,1,8,[.nilf],false,false⟩))) (.nd 482 (.nd 481 (.lf 480 ⟨.func,1,8,[.nilf],false,false⟩) (.lf 481 ⟨.func,1,8,[.nilf],false,false⟩)) (.nd 483 (.lf 482 ⟨.func,1,8,[.nilf],false,false⟩) (.lf 483 ⟨.func,1,8,[.nilf],false,false⟩)))) (.nd 490 (.nd 486 (.nd 485 (.lf 484 ⟨.slice 486,1,24,[.nils],false,false⟩) (.lf 485 ⟨.struct [(0,3),(1,422),(5,484),(6,3),(7,3)],8,80,[.i 0,.u 0,.u 0,.u 0,.u 0,.nils,.i 0,.i 0],true,false⟩)) (.nd 488 (.lf 486 ⟨.struct [(0,3),(1,422),(5,484),(6,3),(7,3)],8,80,[.i 0,.u 0,.u 0,.u 0,.u 0,.nils,.i 0,.i 0],true,false⟩) (.lf 488 ⟨.func,1,8,[.nilf],false,false⟩))) (.nd 492 (.nd 491 (.lf 490 ⟨.func,1,8,[.nilf],false,false⟩) (.lf 491 ⟨.func,1,8,[.nilf],false,false⟩)) (.nd 493 (.lf 492 ⟨.func,1,8,[.nilf],false,false⟩) (.nd 494 (.lf 493 ⟨.map 40 4,1,8,[.nilm],false,false⟩) (.lf 494 ⟨.array 32 5,32,32,cr 32 (.b 0),true,true⟩)))))) (.nd 504 (.nd 499 (.nd 497 (.nd 496 (.lf 495 ⟨.array 64 5,64,64,cr 64 (.b 0),true,true⟩) (.lf 496 ⟨.pointer 498,1,8,[.nil],false,false⟩)) (.nd 498 (.lf 497 ⟨.struct [(0,9),(1,3),(2,3),(3,27)],5,48,[.str [],.i 0,.i 0,.i 0,.i 0],true,true⟩) (.lf 498 ⟨.struct [(0,9),(1,3),(2,3),(3,27)],5,48,[.str [],.i 0,.i 0,.i 0,.i 0],true,true⟩))) (.nd 501 (.nd 500 (.lf 499 ⟨.func,1,8,[.nilf],false,false⟩) (.lf 500 ⟨.slice 537,1,24,[.nils],false,false⟩)) (.nd 502 (.lf 501 ⟨.struct [(0,500),(1,3)],2,32,[.nils,.i 0],true,false⟩) (.lf 502 ⟨.struct [(0,500),(1,3)],2,32,[.nils,.i 0],true,false⟩)))) (.nd 509 (.nd 506 (.nd 505 (.lf 504 ⟨.func,1,8,[.nilf],false,false⟩) (.lf 505 ⟨.func,1,8,[.nilf],false,false⟩)) (.nd 508 (.lf 506 ⟨.func,1,8,[.nilf],false,false⟩) (.lf 508 ⟨.func,1,8,[.nilf],false,false⟩))) (.nd 511 (.nd 510 (.lf 509 ⟨.func,1,8,[.nilf],false,false⟩) (.lf 510 ⟨.map 3 4,1,8,[.nilm],false,false⟩)) (.nd 512 (.lf 511 ⟨.func,1,8,[.nilf],false,false⟩) (.nd 513 (.lf 512 ⟨.func,1,8,[.nilf],false,false⟩) (.lf 513 ⟨.func,1,8,[.nilf],false,false⟩)))))))) (.nd 548 (.nd 530 (.nd 522 (.nd 518 (.nd 516 (.nd 515 (.lf 514 ⟨.func,1,8,[.nilf],false,false⟩) (.lf 515 ⟨.pointer 517,1,8,[.nil],false,false⟩)) (.nd 517 (.lf 516 ⟨.struct [(0,502),(2,4)],3,40,[.nils,.i 0,.bool false],true,false⟩) (.lf 517 ⟨.struct [(0,502),(2,4)],3,40,[.nils,.i 0,.bool false],true,false⟩))) (.nd 520 (.nd 519 (.lf 518 ⟨.func,1,8,[.nilf],false,false⟩) (.lf 519 ⟨.slice 423,1,24,[.nils],false,false⟩)) (.nd 521 (.lf 520 ⟨.func,1,8,[.nilf],false,false⟩) (.lf 521 ⟨.func,1,8,[.nilf],false,false⟩)))) (.nd 526 (.nd 524 (.nd 523 (.lf 522 ⟨.func,1,8,[.nilf],false,false⟩) (.lf 523 ⟨.func,1,8,[.nilf],false,false⟩)) (.nd 525 (.lf 524 ⟨.func,1,8,[.nilf],false,false⟩) (.lf 525 ⟨.func,1,8,[.nilf],false,false⟩))) (.nd 528 (.nd 527 (.lf 526 ⟨.func,1,8,[.nilf],false,false⟩) (.lf 527 ⟨.func,1,8,[.nilf],false,false⟩)) (.nd 529 (.lf 528 ⟨.func,1,8,[.nilf],false,false⟩) (.lf 529 ⟨.func,1,8,[.nilf],false,false⟩))))) (.nd 538 (.nd 534 (.nd 532 (.nd 531 (.lf 530 ⟨.pointer 3,1,8,[.nil],false,false⟩) (.lf 531 ⟨.func,1,8,[.nilf],false,false⟩)) (.nd 533 (.lf 532 ⟨.struct [(0,3),(1,423),(5,4)],6,48,[.i 0,.u 0,.u 0,.u 0,.u 0,.bool false],true,true⟩) (.lf 533 ⟨.struct [(0,3),(1,423),(5,4)],6,48,[.i 0,.u 0,.u 0,.u 0,.u 0,.bool false],true,true⟩))) (.nd 536 (.nd 535 (.lf 534 ⟨.array 2 423,8,64,[.u 0,.u 0,.u 0,.u 0,.u 0,.u 0,.u 0,.u 0],true,true⟩) (.lf 535 ⟨.func,1,8,[.nilf],false,false⟩)) (.nd 537 (.lf 536 ⟨.map 423 4,1,8,[.nilm],false,false⟩) (.lf 537 ⟨.slice 533,1,24,[.nils],false,false⟩)))) (.nd 543 (.nd 540 (.nd 539 (.lf 538 ⟨.func,1,8,[.nilf],false,false⟩) (.lf 539 ⟨.func,1,8,[.nilf],false,false⟩)) (.nd 541 (.lf 540 ⟨.func,1,8,[.nilf],false,false⟩) (.lf 541 ⟨.map 9 5,1,8,[.nilm],false,false⟩))) (.nd 545 (.nd 544 (.lf 543 ⟨.func,1,8,[.nilf],false,false⟩) (.lf 544 ⟨.func,1,8,[.nilf],false,false⟩)) (.nd 546 (.lf 545 ⟨.func,1,8,[.nilf],false,false⟩) (.nd 547 (.lf 546 ⟨.func,1,8,[.nilf],false,false⟩) (.lf 547 ⟨.func,1,8,[.nilf],false,false⟩))))))) (.nd 566 (.nd 557 (.nd 552 (.nd 550 (.nd 549 (.lf 548 ⟨.func,1,8,[.nilf],false,false⟩) (.lf 549 ⟨.func,1,8,[.nilf],false,false⟩)) (.nd 551 (.lf 550 ⟨.func,1,8,[.nilf],false,false⟩) (.lf 551 ⟨.func,1,8,[.nilf],false,false⟩))) (.nd 555 (.nd 554 (.lf 552 ⟨.int .i64,1,8,[.i 0],false,true⟩) (.lf 554 ⟨.func,1,8,[.nilf],false,false⟩)) (.nd 556 (.lf 555 ⟨.func,1,8,[.nilf],false,false⟩) (.lf 556 ⟨.func,1,8,[.nilf],false,false⟩)))) (.nd 561 (.nd 559 (.nd 558 (.lf 557 ⟨.func,1,8,[.nilf],false,false⟩) (.lf 558 ⟨.int .u64,1,8,[.u 0],false,true⟩)) (.nd 560 (.lf 559 ⟨.func,1,8,[.nilf],false,false⟩) (.lf 560 ⟨.func,1,8,[.nilf],false,false⟩))) (.nd 563 (.nd 562 (.lf 561 ⟨.func,1,8,[.nilf],false,false⟩) (.lf 562 ⟨.pointer 558,1,8,[.nil],false,false⟩)) (.nd 564 (.lf 563 ⟨.func,1,8,[.nilf],false,false⟩) (.nd 565 (.lf 564 ⟨.struct [(0,17),(1,17),(2,17),(3,9)],4,40,[.nil,.nil,.nil,.str []],true,false⟩) (.lf 565 ⟨.struct [(0,17),(1,17),(2,17),(3,9)],4,40,[.nil,.nil,.nil,.str []],true,false⟩)))))) (.nd 574 (.nd 570 (.nd 568 (.nd 567 (.lf 566 ⟨.array 0 16,0,0,[],true,false⟩) (.lf 567 ⟨.struct [(0,566)],0,0,[],true,false⟩)) (.nd 569 (.lf 568 ⟨.struct [(0,566)],0,0,[],true,false⟩) (.lf 569 ⟨.int .u8,1,1,[.b 0],false,true⟩))) (.nd 572 (.nd 571 (.lf 570 ⟨.int .u8,1,1,[.b 0],false,true⟩) (.lf 571 ⟨.func,1,8,[.nilf],false,false⟩)) (.nd 573 (.lf 572 ⟨.pointer 5,1,8,[.nil],false,false⟩) (.lf 573 ⟨.int .i32,1,4,[.v 0],false,true⟩)))) (.nd 578 (.nd 576 (.nd 575 (.lf 574 ⟨.int .i32,1,4,[.v 0],false,true⟩) (.lf 575 ⟨.struct [(0,12),(1,12),(2,115),(3,569),(4,5),(5,5),(6,570),(7,571),(8,572),(9,573),(10,574)],11,48,[.u 0,.u 0,.w 0,.b 0,.b 0,.b 0,.b 0,.nilf,.nil,.v 0,.v 0],true,false⟩)) (.nd 577 (.lf 576 ⟨.struct [(0,12),(1,12),(2,115),(3,569),(4,5),(5,5),(6,570),(7,571),(8,572),(9,573),(10,574)],11,48,[.u 0,.u 0,.w 0,.b 0,.b 0,.b 0,.b 0,.nilf,.nil,.v 0,.v 0],true,false⟩) (.lf 577 ⟨.func,1,8,[.nilf],false,false⟩))) (.nd 580 (.nd 579 (.lf 578 ⟨.func,1,8,[.nilf],false,false⟩) (.lf 579 ⟨.func,1,8,[.nilf],false,false⟩)) (.nd 581 (.lf 580 ⟨.func,1,8,[.nilf],false,false⟩) (.nd 582 (.lf 581 ⟨.struct [(0,40),(1,40),(2,40),(3,40),(4,40)],5,40,[.u 0,.u 0,.u 0,.u 0,.u 0],true,true⟩) (.lf 582 ⟨.struct [(0,40),(1,40),(2,40),(3,40),(4,40)],5,40,[.u 0,.u 0,.u 0,.u 0,.u 0],true,true⟩)))))))))))
noncomputable def fnT:BT Func:=(.nd 222 (.nd 111 (.nd 55 (.nd 27 (.nd 13 (.nd 6 (.nd 3 (.nd 1 (.lf 0 Tryz.f0) (.nd 2 (.lf 1 Tryz.f1) (.lf 2 Tryz.f2))) (.nd 4 (.lf 3 Tryz.f3) (.nd 5 (.lf 4 Tryz.f4) (.lf 5 Tryz.f5)))) (.nd 9 (.nd 7 (.lf 6 Tryz.f6) (.nd 8 (.lf 7 Tryz.f7) (.lf 8 Tryz.f8))) (.nd 11 (.nd 10 (.lf 9 Tryz.f9) (.lf 10 Tryz.f10)) (.nd 12 (.lf 11 Tryz.f11) (.lf 12 Tryz.f12))))) (.nd 20 (.nd 16 (.nd 14 (.lf 13 Tryz.f13) (.nd 15 (.lf 14 Tryz.f14) (.lf 15 Tryz.f15))) (.nd 18 (.nd 17 (.lf 16 Tryz.f16) (.lf 17 Tryz.f17)) (.nd 19 (.lf 18 Tryz.f18) (.lf 19 Tryz.f19)))) (.nd 23 (.nd 21 (.lf 20 Tryz.f20) (.nd 22 (.lf 21 Tryz.f21) (.lf 22 Tryz.f22))) (.nd 25 (.nd 24 (.lf 23 Tryz.f23) (.lf 24 Tryz.f24)) (.nd 26 (.lf 25 Tryz.f25) (.lf 26 Tryz.f26)))))) (.nd 41 (.nd 34 (.nd 30 (.nd 28 (.lf 27 Tryz.f27) (.nd 29 (.lf 28 Tryz.f28) (.lf 29 Tryz.f29))) (.nd 32 (.nd 31 (.lf 30 Tryz.f30) (.lf 31 Tryz.f31)) (.nd 33 (.lf 32 Tryz.f32) (.lf 33 Tryz.f33)))) (.nd 37 (.nd 35 (.lf 34 Tryz.f34) (.nd 36 (.lf 35 Tryz.f35) (.lf 36 Tryz.f36))) (.nd 39 (.nd 38 (.lf 37 Tryz.f37) (.lf 38 Tryz.f38)) (.nd 40 (.lf 39 Tryz.f39) (.lf 40 Tryz.f40))))) (.nd 48 (.nd 44 (.nd 42 (.lf 41 Tryz.f41) (.nd 43 (.lf 42 Tryz.f42) (.lf 43 Tryz.f43))) (.nd 46 (.nd 45 (.lf 44 Tryz.f44) (.lf 45 Tryz.f45)) (.nd 47 (.lf 46 Tryz.f46) (.lf 47 Tryz.f47)))) (.nd 51 (.nd 49 (.lf 48 Tryz.f48) (.nd 50 (.lf 49 Tryz.f49) (.lf 50 Tryz.f50))) (.nd 53 (.nd 52 (.lf 51 Tryz.f51) (.lf 52 Tryz.f52)) (.nd 54 (.lf 53 Tryz.f53) (.lf 54 Tryz.f54))))))) (.nd 83 (.nd 69 (.nd 62 (.nd 58 (.nd 56 (.lf 55 Tryz.f55) (.nd 57 (.lf 56 Tryz.f56) (.lf 57 Tryz.f57))) (.nd 60 (.nd 59 (.lf 58 Tryz.f58) (.lf 59 Tryz.f59)) (.nd 61 (.lf 60 Tryz.f60) (.lf 61 Tryz.f61)))) (.nd 65 (.nd 63 (.lf 62 Tryz.f62) (.nd 64 (.lf 63 Tryz.f63) (.lf 64 Tryz.f64))) (.nd 67 (.nd 66 (.lf 65 Tryz.f65) (.lf 66 Tryz.f66)) (.nd 68 (.lf 67 Tryz.f67) (.lf 68 Tryz.f68))))) (.nd 76 (.nd 72 (.nd 70 (.lf 69 Tryz.f69) (.nd 71 (.lf 70 Tryz.f70) (.lf 71 Tryz.f71))) (.nd 74 (.nd 73 (.lf 72 Tryz.f72) (.lf 73 Tryz.f73)) (.nd 75 (.lf 74 Tryz.f74) (.lf 75 Tryz.f75)))) (.nd 79 (.nd 77 (.lf 76 Tryz.f76) (.nd 78 (.lf 77 Tryz.f77) (.lf 78 Tryz.f78))) (.nd 81 (.nd 80 (.lf 79 Tryz.f79) (.lf 80 Tryz.f80)) (.nd 82 (.lf 81 Tryz.f81) (.lf 82 Tryz.f82)))))) (.nd 97 (.nd 90 (.nd 86 (.nd 84 (.lf 83 Tryz.f83) (.nd 85 (.lf 84 Tryz.f84) (.lf 85 Tryz.f85))) (.nd 88 (.nd 87 (.lf 86 Tryz.f86) (.lf 87 Tryz.f87)) (.nd 89 (.lf 88 Tryz.f88) (.lf 89 Tryz.f89)))) (.nd 93 (.nd 91 (.lf 90 Tryz.f90) (.nd 92 (.lf 91 Tryz.f91) (.lf 92 Tryz.f92))) (.nd 95 (.nd 94 (.lf 93 Tryz.f93) (.lf 94 Tryz.f94)) (.nd 96 (.lf 95 Tryz.f95) (.lf 96 Tryz.f96))))) (.nd 104 (.nd 100 (.nd 98 (.lf 97 Tryz.f97) (.nd 99 (.lf 98 Tryz.f98) (.lf 99 Tryz.f99))) (.nd 102 (.nd 101 (.lf 100 Tryz.f100) (.lf 101 Tryz.f101)) (.nd 103 (.lf 102 Tryz.f102) (.lf 103 Tryz.f103)))) (.nd 107 (.nd 105 (.lf 104 Tryz.f104) (.nd 106 (.lf 105 Tryz.f105) (.lf 106 Tryz.f106))) (.nd 109 (.nd 108 (.lf 107 Tryz.f107) (.lf 108 Tryz.f108)) (.nd 110 (.lf 109 Tryz.f109) (.lf 110 Tryz.f110)))))))) (.nd 166 (.nd 138 (.nd 124 (.nd 117 (.nd 114 (.nd 112 (.lf 111 Tryz.f111) (.nd 113 (.lf 112 Tryz.f112) (.lf 113 Tryz.f113))) (.nd 115 (.lf 114 Tryz.f114) (.nd 116 (.lf 115 Tryz.f115) (.lf 116 Tryz.f116)))) (.nd 120 (.nd 118 (.lf 117 Tryz.f117) (.nd 119 (.lf 118 Tryz.f118) (.lf 119 Tryz.f119))) (.nd 122 (.nd 121 (.lf 120 Tryz.f120) (.lf 121 Tryz.f121)) (.nd 123 (.lf 122 Tryz.f122) (.lf 123 Tryz.f123))))) (.nd 131 (.nd 127 (.nd 125 (.lf 124 Tryz.f124) (.nd 126 (.lf 125 Tryz.f125) (.lf 126 Tryz.f126))) (.nd 129 (.nd 128 (.lf 127 Tryz.f127) (.lf 128 Tryz.f128)) (.nd 130 (.lf 129 Tryz.f129) (.lf 130 Tryz.f130)))) (.nd 134 (.nd 132 (.lf 131 Tryz.f131) (.nd 133 (.lf 132 Tryz.f132) (.lf 133 Tryz.f133))) (.nd 136 (.nd 135 (.lf 134 Tryz.f134) (.lf 135 Tryz.f135)) (.nd 137 (.lf 136 Tryz.f136) (.lf 137 Tryz.f137)))))) (.nd 152 (.nd 145 (.nd 141 (.nd 139 (.lf 138 Tryz.f138) (.nd 140 (.lf 139 Tryz.f139) (.lf 140 Tryz.f140))) (.nd 143 (.nd 142 (.lf 141 Tryz.f141) (.lf 142 Tryz.f142)) (.nd 144 (.lf 143 Tryz.f143) (.lf 144 Tryz.f144)))) (.nd 148 (.nd 146 (.lf 145 Tryz.f145) (.nd 147 (.lf 146 Tryz.f146) (.lf 147 Tryz.f147))) (.nd 150 (.nd 149 (.lf 148 Tryz.f148) (.lf 149 Tryz.f149)) (.nd 151 (.lf 150 Tryz.f150) (.lf 151 Tryz.f151))))) (.nd 159 (.nd 155 (.nd 153 (.lf 152 Tryz.f152) (.nd 154 (.lf 153 Tryz.f153) (.lf 154 Tryz.f154))) (.nd 157 (.nd 156 (.lf 155 Tryz.f155) (.lf 156 Tryz.f156)) (.nd 158 (.lf 157 Tryz.f157) (.lf 158 Tryz.f158)))) (.nd 162 (.nd 160 (.lf 159 Tryz.f159) (.nd 161 (.lf 160 Tryz.f160) (.lf 161 Tryz.f161))) (.nd 164 (.nd 163 (.lf 162 Tryz.f162) (.lf 163 Tryz.f163)) (.nd 165 (.lf 164 Tryz.f164) (.lf 165 Tryz.f165))))))) (.nd 194 (.nd 180 (.nd 173 (.nd 169 (.nd 167 (.lf 166 Tryz.f166) (.nd 168 (.lf 167 Tryz.f167) (.lf 168 Tryz.f168))) (.nd 171 (.nd 170 (.lf 169 Tryz.f169) (.lf 170 Tryz.f170)) (.nd 172 (.lf 171 Tryz.f171) (.lf 172 Tryz.f172)))) (.nd 176 (.nd 174 (.lf 173 Tryz.f173) (.nd 175 (.lf 174 Tryz.f174) (.lf 175 Tryz.f175))) (.nd 178 (.nd 177 (.lf 176 Tryz.f176) (.lf 177 Tryz.f177)) (.nd 179 (.lf 178 Tryz.f178) (.lf 179 Tryz.f179))))) (.nd 187 (.nd 183 (.nd 181 (.lf 180 Tryz.f180) (.nd 182 (.lf 181 Tryz.f181) (.lf 182 Tryz.f182))) (.nd 185 (.nd 184 (.lf 183 Tryz.f183) (.lf 184 Tryz.f184)) (.nd 186 (.lf 185 Tryz.f185) (.lf 186 Tryz.f186)))) (.nd 190 (.nd 188 (.lf 187 Tryz.f187) (.nd 189 (.lf 188 Tryz.f188) (.lf 189 Tryz.f189))) (.nd 192 (.nd 191 (.lf 190 Tryz.f190) (.lf 191 Tryz.f191)) (.nd 193 (.lf 192 Tryz.f192) (.lf 193 Tryz.f193)))))) (.nd 208 (.nd 201 (.nd 197 (.nd 195 (.lf 194 Tryz.f194) (.nd 196 (.lf 195 Tryz.f195) (.lf 196 Tryz.f196))) (.nd 199 (.nd 198 (.lf 197 Tryz.f197) (.lf 198 Tryz.f198)) (.nd 200 (.lf 199 Tryz.f199) (.lf 200 Tryz.f200)))) (.nd 204 (.nd 202 (.lf 201 Tryz.f201) (.nd 203 (.lf 202 Tryz.f202) (.lf 203 Tryz.f203))) (.nd 206 (.nd 205 (.lf 204 Tryz.f204) (.lf 205 Tryz.f205)) (.nd 207 (.lf 206 Tryz.f206) (.lf 207 Tryz.f207))))) (.nd 215 (.nd 211 (.nd 209 (.lf 208 Tryz.f208) (.nd 210 (.lf 209 Tryz.f209) (.lf 210 Tryz.f210))) (.nd 213 (.nd 212 (.lf 211 Tryz.f211) (.lf 212 Tryz.f212)) (.nd 214 (.lf 213 Tryz.f213) (.lf 214 Tryz.f214)))) (.nd 218 (.nd 216 (.lf 215 Tryz.f215) (.nd 217 (.lf 216 Tryz.f216) (.lf 217 Tryz.f217))) (.nd 220 (.nd 219 (.lf 218 Tryz.f218) (.lf 219 Tryz.f219)) (.nd 221 (.lf 220 Tryz.f220) (.lf 221 Tryz.f221))))))))) (.nd 333 (.nd 277 (.nd 249 (.nd 235 (.nd 228 (.nd 225 (.nd 223 (.lf 222 Tryz.f222) (.nd 224 (.lf 223 Tryz.f223) (.lf 224 Tryz.f224))) (.nd 226 (.lf 225 Tryz.f225) (.nd 227 (.lf 226 Tryz.f226) (.lf 227 Tryz.f227)))) (.nd 231 (.nd 229 (.lf 228 Tryz.f228) (.nd 230 (.lf 229 Tryz.f229) (.lf 230 Tryz.f230))) (.nd 233 (.nd 232 (.lf 231 Tryz.f231) (.lf 232 Tryz.f232)) (.nd 234 (.lf 233 Tryz.f233) (.lf 234 Tryz.f234))))) (.nd 242 (.nd 238 (.nd 236 (.lf 235 Tryz.f235) (.nd 237 (.lf 236 Tryz.f236) (.lf 237 Tryz.f237))) (.nd 240 (.nd 239 (.lf 238 Tryz.f238) (.lf 239 Tryz.f239)) (.nd 241 (.lf 240 Tryz.f240) (.lf 241 Tryz.f241)))) (.nd 245 (.nd 243 (.lf 242 Tryz.f242) (.nd 244 (.lf 243 Tryz.f243) (.lf 244 Tryz.f244))) (.nd 247 (.nd 246 (.lf 245 Tryz.f245) (.lf 246 Tryz.f246)) (.nd 248 (.lf 247 Tryz.f247) (.lf 248 Tryz.f248)))))) (.nd 263 (.nd 256 (.nd 252 (.nd 250 (.lf 249 Tryz.f249) (.nd 251 (.lf 250 Tryz.f250) (.lf 251 Tryz.f251))) (.nd 254 (.nd 253 (.lf 252 Tryz.f252) (.lf 253 Tryz.f253)) (.nd 255 (.lf 254 Tryz.f254) (.lf 255 Tryz.f255)))) (.nd 259 (.nd 257 (.lf 256 Tryz.f256) (.nd 258 (.lf 257 Tryz.f257) (.lf 258 Tryz.f258))) (.nd 261 (.nd 260 (.lf 259 Tryz.f259) (.lf 260 Tryz.f260)) (.nd 262 (.lf 261 Tryz.f261) (.lf 262 Tryz.f262))))) (.nd 270 (.nd 266 (.nd 264 (.lf 263 Tryz.f263) (.nd 265 (.lf 264 Tryz.f264) (.lf 265 Tryz.f265))) (.nd 268 (.nd 267 (.lf 266 Tryz.f266) (.lf 267 Tryz.f267)) (.nd 269 (.lf 268 Tryz.f268) (.lf 269 Tryz.f269)))) (.nd 273 (.nd 271 (.lf 270 Tryz.f270) (.nd 272 (.lf 271 Tryz.f271) (.lf 272 Tryz.f272))) (.nd 275 (.nd 274 (.lf 273 Tryz.f273) (.lf 274 Tryz.f274)) (.nd 276 (.lf 275 Tryz.f275) (.lf 276 Tryz.f276))))))) (.nd 305 (.nd 291 (.nd 284 (.nd 280 (.nd 278 (.lf 277 Tryz.f277) (.nd 279 (.lf 278 Tryz.f278) (.lf 279 Tryz.f279))) (.nd 282 (.nd 281 (.lf 280 Tryz.f280) (.lf 281 Tryz.f281)) (.nd 283 (.lf 282 Tryz.f282) (.lf 283 Tryz.f283)))) (.nd 287 (.nd 285 (.lf 284 Tryz.f284) (.nd 286 (.lf 285 Tryz.f285) (.lf 286 Tryz.f286))) (.nd 289 (.nd 288 (.lf 287 Tryz.f287) (.lf 288 Tryz.f288)) (.nd 290 (.lf 289 Tryz.f289) (.lf 290 Tryz.f290))))) (.nd 298 (.nd 294 (.nd 292 (.lf 291 Tryz.f291) (.nd 293 (.lf 292 Tryz.f292) (.lf 293 Tryz.f293))) (.nd 296 (.nd 295 (.lf 294 Tryz.f294) (.lf 295 Tryz.f295)) (.nd 297 (.lf 296 Tryz.f296) (.lf 297 Tryz.f297)))) (.nd 301 (.nd 299 (.lf 298 Tryz.f298) (.nd 300 (.lf 299 Tryz.f299) (.lf 300 Tryz.f300))) (.nd 303 (.nd 302 (.lf 301 Tryz.f301) (.lf 302 Tryz.f302)) (.nd 304 (.lf 303 Tryz.f303) (.lf 304 Tryz.f304)))))) (.nd 319 (.nd 312 (.nd 308 (.nd 306 (.lf 305 Tryz.f305) (.nd 307 (.lf 306 Tryz.f306) (.lf 307 Tryz.f307))) (.nd 310 (.nd 309 (.lf 308 Tryz.f308) (.lf 309 Tryz.f309)) (.nd 311 (.lf 310 Tryz.f310) (.lf 311 Tryz.f311)))) (.nd 315 (.nd 313 (.lf 312 Tryz.f312) (.nd 314 (.lf 313 Tryz.f313) (.lf 314 Tryz.f314))) (.nd 317 (.nd 316 (.lf 315 Tryz.f315) (.lf 316 Tryz.f316)) (.nd 318 (.lf 317 Tryz.f317) (.lf 318 Tryz.f318))))) (.nd 326 (.nd 322 (.nd 320 (.lf 319 Tryz.f319) (.nd 321 (.lf 320 Tryz.f320) (.lf 321 Tryz.f321))) (.nd 324 (.nd 323 (.lf 322 Tryz.f322) (.lf 323 Tryz.f323)) (.nd 325 (.lf 324 Tryz.f324) (.lf 325 Tryz.f325)))) (.nd 329 (.nd 327 (.lf 326 Tryz.f326) (.nd 328 (.lf 327 Tryz.f327) (.lf 328 Tryz.f328))) (.nd 331 (.nd 330 (.lf 329 Tryz.f329) (.lf 330 Tryz.f330)) (.nd 332 (.lf 331 Tryz.f331) (.lf 332 Tryz.f332)))))))) (.nd 389 (.nd 361 (.nd 347 (.nd 340 (.nd 336 (.nd 334 (.lf 333 Tryz.f333) (.nd 335 (.lf 334 Tryz.f334) (.lf 335 Tryz.f335))) (.nd 338 (.nd 337 (.lf 336 Tryz.f336) (.lf 337 Tryz.f337)) (.nd 339 (.lf 338 Tryz.f338) (.lf 339 Tryz.f339)))) (.nd 343 (.nd 341 (.lf 340 Tryz.f340) (.nd 342 (.lf 341 Tryz.f341) (.lf 342 Tryz.f342))) (.nd 345 (.nd 344 (.lf 343 Tryz.f343) (.lf 344 Tryz.f344)) (.nd 346 (.lf 345 Tryz.f345) (.lf 346 Tryz.f346))))) (.nd 354 (.nd 350 (.nd 348 (.lf 347 Tryz.f347) (.nd 349 (.lf 348 Tryz.f348) (.lf 349 Tryz.f349))) (.nd 352 (.nd 351 (.lf 350 Tryz.f350) (.lf 351 Tryz.f351)) (.nd 353 (.lf 352 Tryz.f352) (.lf 353 Tryz.f353)))) (.nd 357 (.nd 355 (.lf 354 Tryz.f354) (.nd 356 (.lf 355 Tryz.f355) (.lf 356 Tryz.f356))) (.nd 359 (.nd 358 (.lf 357 Tryz.f357) (.lf 358 Tryz.f358)) (.nd 360 (.lf 359 Tryz.f359) (.lf 360 Tryz.f360)))))) (.nd 375 (.nd 368 (.nd 364 (.nd 362 (.lf 361 Tryz.f361) (.nd 363 (.lf 362 Tryz.f362) (.lf 363 Tryz.f363))) (.nd 366 (.nd 365 (.lf 364 Tryz.f364) (.lf 365 Tryz.f365)) (.nd 367 (.lf 366 Tryz.f366) (.lf 367 Tryz.f367)))) (.nd 371 (.nd 369 (.lf 368 Tryz.f368) (.nd 370 (.lf 369 Tryz.f369) (.lf 370 Tryz.f370))) (.nd 373 (.nd 372 (.lf 371 Tryz.f371) (.lf 372 Tryz.f372)) (.nd 374 (.lf 373 Tryz.f373) (.lf 374 Tryz.f374))))) (.nd 382 (.nd 378 (.nd 376 (.lf 375 Tryz.f375) (.nd 377 (.lf 376 Tryz.f376) (.lf 377 Tryz.f377))) (.nd 380 (.nd 379 (.lf 378 Tryz.f378) (.lf 379 Tryz.f379)) (.nd 381 (.lf 380 Tryz.f380) (.lf 381 Tryz.f381)))) (.nd 385 (.nd 383 (.lf 382 Tryz.f382) (.nd 384 (.lf 383 Tryz.f383) (.lf 384 Tryz.f384))) (.nd 387 (.nd 386 (.lf 385 Tryz.f385) (.lf 386 Tryz.f386)) (.nd 388 (.lf 387 Tryz.f387) (.lf 388 Tryz.f388))))))) (.nd 417 (.nd 403 (.nd 396 (.nd 392 (.nd 390 (.lf 389 Tryz.f389) (.nd 391 (.lf 390 Tryz.f390) (.lf 391 Tryz.f391))) (.nd 394 (.nd 393 (.lf 392 Tryz.f392) (.lf 393 Tryz.f393)) (.nd 395 (.lf 394 Tryz.f394) (.lf 395 Tryz.f395)))) (.nd 399 (.nd 397 (.lf 396 Tryz.f396) (.nd 398 (.lf 397 Tryz.f397) (.lf 398 Tryz.f398))) (.nd 401 (.nd 400 (.lf 399 Tryz.f399) (.lf 400 Tryz.f400)) (.nd 402 (.lf 401 Tryz.f401) (.lf 402 Tryz.f402))))) (.nd 410 (.nd 406 (.nd 404 (.lf 403 Tryz.f403) (.nd 405 (.lf 404 Tryz.f404) (.lf 405 Tryz.f405))) (.nd 408 (.nd 407 (.lf 406 Tryz.f406) (.lf 407 Tryz.f407)) (.nd 409 (.lf 408 Tryz.f408) (.lf 409 Tryz.f409)))) (.nd 413 (.nd 411 (.lf 410 Tryz.f410) (.nd 412 (.lf 411 Tryz.f411) (.lf 412 Tryz.f412))) (.nd 415 (.nd 414 (.lf 413 Tryz.f413) (.lf 414 Tryz.f414)) (.nd 416 (.lf 415 Tryz.f415) (.lf 416 Tryz.f416)))))) (.nd 431 (.nd 424 (.nd 420 (.nd 418 (.lf 417 Tryz.f417) (.nd 419 (.lf 418 Tryz.f418) (.lf 419 Tryz.f419))) (.nd 422 (.nd 421 (.lf 420 Tryz.f420) (.lf 421 Tryz.f421)) (.nd 423 (.lf 422 Tryz.f422) (.lf 423 Tryz.f423)))) (.nd 427 (.nd 425 (.lf 424 Tryz.f424) (.nd 426 (.lf 425 Tryz.f425) (.lf 426 Tryz.f426))) (.nd 429 (.nd 428 (.lf 427 Tryz.f427) (.lf 428 Tryz.f428)) (.nd 430 (.lf 429 Tryz.f429) (.lf 430 Tryz.f430))))) (.nd 438 (.nd 434 (.nd 432 (.lf 431 Tryz.f431) (.nd 433 (.lf 432 Tryz.f432) (.lf 433 Tryz.f433))) (.nd 436 (.nd 435 (.lf 434 Tryz.f434) (.lf 435 Tryz.f435)) (.nd 437 (.lf 436 Tryz.f436) (.lf 437 Tryz.f437)))) (.nd 441 (.nd 439 (.lf 438 Tryz.f438) (.nd 440 (.lf 439 Tryz.f439) (.lf 440 Tryz.f440))) (.nd 443 (.nd 442 (.lf 441 Tryz.f441) (.lf 442 Tryz.f442)) (.nd 444 (.lf 443 Tryz.f443) (.lf 444 Tryz.f444))))))))))
end
end Go.Proofs.YteapfopaiocpeaaGreatDoor
namespace Go.Proofs.YteapfopaiocpeaaGreatDoor
open Go.Shelf
def ahl:Go.Shelf.Ren:=⟨fun|219=>241|217=>270|225=>271|224=>272|267=>273|266=>301|314=>302|n=>n,fun|9=>9|3=>3|4=>4|5=>5|46=>74|146=>469|51=>115|n=>n,fun|1=>2|n=>n⟩
theorem asM:Go.Proofs.Lays.n219 Tryz.prog ahl:={
 mixed:=by kernel_rfl
 f217:=Tryz.func270.trans (congrArg some (by kernel_rfl))
 f219:=Tryz.func241.trans (congrArg some (by kernel_rfl))
 f224:=Tryz.func272.trans (congrArg some (by kernel_rfl))
 f225:=Tryz.func271.trans (congrArg some (by kernel_rfl))
 f266:=Tryz.func301.trans (congrArg some (by kernel_rfl))
 f267:=Tryz.func273.trans (congrArg some (by kernel_rfl))
 f314:=Tryz.func302.trans (congrArg some (by kernel_rfl))
 t3:=Tryz.underlying3
 a3:=Tryz.isAgg3
 z3:=Tryz.sizeOf3
 v3:=Tryz.zeroValue3
 t4:=Tryz.underlying4
 a4:=Tryz.isAgg4
 z4:=Tryz.sizeOf4
 v4:=Tryz.zeroValue4
 t5:=Tryz.underlying5
 a5:=Tryz.isAgg5
 z5:=Tryz.sizeOf5
 v5:=Tryz.zeroValue5
 t9:=Tryz.underlying9
 a9:=Tryz.isAgg9
 z9:=Tryz.sizeOf9
 v9:=Tryz.zeroValue9
 t46:=Tryz.underlying74
 a46:=Tryz.isAgg74
 z46:=Tryz.sizeOf74
 v46:=Tryz.zeroValue74
 t51:=Tryz.underlying115
 a51:=Tryz.isAgg115
 z51:=Tryz.sizeOf115
 v51:=Tryz.zeroValue115
 t146:=Tryz.underlying469
 a146:=Tryz.isAgg469
 z146:=Tryz.sizeOf469
 v146:=Tryz.zeroValue469
 g1:=by kernel_rfl}
end Go.Proofs.YteapfopaiocpeaaGreatDoor
namespace Go.Proofs.YteapfopaiocpeaaGreatDoor
set_option linter.unusedVariables false
noncomputable section
def preB (p l:List Nat):Bool:=List.rec (motive:=fun _=>List Nat→Bool) (fun _=>true) (fun a _ ih l=>List.rec (motive:=fun _=>Bool) false (fun b r _=>bq (Nat.beq a b) (ih r) false) l) p l
def aby (p l:List Nat):Nat→Int:=List.rec (motive:=fun _=>Nat→Int) (fun i=>bq (preB p []) (.ofNat i) (.negSucc 0)) (fun a r ih i=>bq (preB p (a::r)) (.ofNat i) (ih (Nat.succ i))) l
def ah1 (args:List AV) (h:AH):Option (AV×AH):=
 match args with
 |[.str s,.str p]=>bq (Nat.ble (aj s) 4294967280) (some (.int 9223372036854775807 (aby p s 0),h)) none
 |_=>none
def ascZ:List Int:=(List.range 256).map fun c=>if [9,10,11,12,13,32].contains c then 1 else 0
def ap4:List AV:=ascZ.map fun n=>.int 255 n
def gl0 (mx:Int) (g:Nat):Option (List AV):=bq (Nat.beq g 0) (some ap4) (bq (Nat.beq g 2) (some [.int 9223372036854775807 mx]) none)
def aqA (f:Nat):Option (List AV→AH→Option (AV×AH)):=bq (Nat.beq f 296) (some (fun args h=>au (aqw args) fun v=>some (v,h))) (bq (Nat.beq f 301) (some (fun args h=>au (ajw args) fun v=>some (v,h))) (bq (Nat.beq f 181) (some (mV 18446744073709551615)) (bq (Nat.beq f 105) (some (mV 9223372036854775807)) (bq (Nat.beq f 108) (some (mV 2147483647)) (bq (Nat.beq f 244) (some (acw 2147483647)) (bq (Nat.beq f 152) (some (pC 4294967295)) (bq (Nat.beq f 203) (some (tW 4294967295)) (none))))))))
def orc0 (f:Nat):Option (Run→List AV→AH→Option (AV×AH)):=bq (Nat.beq f 241) (some (fun _=>ah1)) (bq (Nat.beq f 107) (some ai6) (none))
def fzL:List Nat:=[16,35,88,157,156,158,109,164,19,110,205,206,338,326,324,43]
def trL:List Nat:=[55,58,134,38,117,76,169,218,43,50,74,251,253,287,72,113,30,24,13,7,163,111,323,210,118,116,237,268,358,372,354,365,363,340,360,373,339,328,330,338]
def memN (f:Nat) (l:List Nat):Bool:=List.rec (motive:=fun _=>Bool) false (fun a _ ih=>bq (Nat.beq f a) true ih) l
def C0 (mx:Int):Cx:={ty:=sP tyT,fn:=sP fnT,gl:=gl0 mx,orc:=orc0,ext:=aqA,rn:=fun _ _=>none,sq:=fun _=>none,fz:=fun f=>memN f fzL,tr:=fun f=>memN f trL}
end
end Go.Proofs.YteapfopaiocpeaaGreatDoor
namespace Go.Proofs.YteapfopaiocpeaaGreatDoor
set_option linter.unusedSimpArgs false
set_option linter.unusedVariables false
set_option linter.unnecessarySimpa false
set_option maxRecDepth 100000 in
theorem as5:wV (fun t ti=>and (aeH Tryz.prog t ti) (adS Tryz.prog t ti)) tyT=true:=by decide+kernel
def fnP (f : Nat) (fn : Func) : Prop := Tryz.prog.funcs[f]? = some fn ∧ (fn.name == "runtime.NumGoroutine") = false
set_option maxRecDepth 100000 in
theorem ar8:jD fnP fnT:=by
 unfold fnT
 repeat' (first|exact And.intro (by kernel_rfl) (by kernel_rfl)|refine And.intro ?_ ?_)
theorem row0:hO Tryz.prog 296 add64Entry:=⟨_,Tryz.func296,by kernel_rfl,by kernel_rfl,by kernel_rfl,by kernel_rfl⟩
theorem row1:hO Tryz.prog 301 Extern.BytealgIndexByte.indexByte:=⟨_,Tryz.func301,by kernel_rfl,by kernel_rfl,by kernel_rfl,by kernel_rfl⟩
theorem row2:hO Tryz.prog 181 (Extern.Atomic.update (Op.intArith .add) .u64 true):=⟨_,Tryz.func181,by kernel_rfl,by kernel_rfl,by kernel_rfl,by kernel_rfl⟩
theorem row3:hO Tryz.prog 105 (Extern.Atomic.update (Op.intArith .add) .i64 true):=⟨_,Tryz.func105,by kernel_rfl,by kernel_rfl,by kernel_rfl,by kernel_rfl⟩
theorem row4:hO Tryz.prog 108 (Extern.Atomic.update (Op.intArith .add) .i32 true):=⟨_,Tryz.func108,by kernel_rfl,by kernel_rfl,by kernel_rfl,by kernel_rfl⟩
theorem row5:hO Tryz.prog 244 (Extern.Atomic.casT (.int .i32)):=⟨_,Tryz.func244,by kernel_rfl,by kernel_rfl,by kernel_rfl,by kernel_rfl⟩
theorem row6:hO Tryz.prog 152 (Extern.Atomic.loadT (.int .u32)):=⟨_,Tryz.func152,by kernel_rfl,by kernel_rfl,by kernel_rfl,by kernel_rfl⟩
theorem row7:hO Tryz.prog 203 Extern.Atomic.storeT:=⟨_,Tryz.func203,by kernel_rfl,by kernel_rfl,by kernel_rfl,by kernel_rfl⟩
theorem aq2 {mx:Int}: ∀f g,(C0 mx).ext f=some g→ ∀args h v h',g args h=some (v,h')→ ∀ok w ρ us,Inv (C0 mx) ok w ρ h→VL ok w args ρ us→ ∃u w' ok' ρ',(callFunc f us.toArray).run Tryz.prog w= .ok (.value u) w'∧Ext ok w ρ h ok' w' ρ' h'∧Inv (C0 mx) ok' w' ρ' h'∧V ok' w' v ρ' u:=by
 intro f g e
 have e:bq (Nat.beq f 296) _ (bq (Nat.beq f 301) _ (bq (Nat.beq f 181) _ (bq (Nat.beq f 105) _ (bq (Nat.beq f 108) _ (bq (Nat.beq f 244) _ (bq (Nat.beq f 152) _ (bq (Nat.beq f 203) _ (none))))))))=some g:=e
 cases h0:Nat.beq f 296 with
 |true=>
  rw [h0,aw] at e
  cases e
  rw [Nat.eq_of_beq_eq_true h0]
  exact anF row0
 |false=>
  rw [h0,ay] at e
  cases h1:Nat.beq f 301 with
  |true=>
   rw [h1,aw] at e
   cases e
   rw [Nat.eq_of_beq_eq_true h1]
   exact ahT row1
  |false=>
   rw [h1,ay] at e
   cases h2:Nat.beq f 181 with
   |true=>
    rw [h2,aw] at e
    cases e
    rw [Nat.eq_of_beq_eq_true h2]
    exact um (k:=.u64) (aiS .u64) row2
   |false=>
    rw [h2,ay] at e
    cases h3:Nat.beq f 105 with
    |true=>
     rw [h3,aw] at e
     cases e
     rw [Nat.eq_of_beq_eq_true h3]
     exact um (k:=.i64) (aiS .i64) row3
    |false=>
     rw [h3,ay] at e
     cases h4:Nat.beq f 108 with
     |true=>
      rw [h4,aw] at e
      cases e
      rw [Nat.eq_of_beq_eq_true h4]
      exact um (k:=.i32) (aiS .i32) row4
     |false=>
      rw [h4,ay] at e
      cases h5:Nat.beq f 244 with
      |true=>
       rw [h5,aw] at e
       cases e
       rw [Nat.eq_of_beq_eq_true h5]
       exact air (k:=.i32) row5
      |false=>
       rw [h5,ay] at e
       cases h6:Nat.beq f 152 with
       |true=>
        rw [h6,aw] at e
        cases e
        rw [Nat.eq_of_beq_eq_true h6]
        exact agM (k:=.u32) row6
       |false=>
        rw [h6,ay] at e
        cases h7:Nat.beq f 203 with
        |true=>
         rw [h7,aw] at e
         cases e
         rw [Nat.eq_of_beq_eq_true h7]
         exact ab7 (k:=.u32) row7
        |false=>
         rw [h7,ay] at e
         cases e
theorem as7 {mx:Int} (orc: ∀f g,orc0 f=some g→ ∀run,dg Tryz.prog (C0 mx) run→ ∀args h r h',g run args h=some (r,h')→iE Tryz.prog (C0 mx) f args h r h'):aX Tryz.prog (C0 mx):=by
 have ty: ∀t ti,(C0 mx).ty t=some ti→aeH Tryz.prog t ti=true∧adS Tryz.prog t ti=true:=fun t ti h=>by
  have:=tL as5 t ti h
  rwa [Bool.and_eq_true] at this
 exact ⟨fun t ti h=>(zM (ty t ti h).1).1,fun t ti h=>(zM (ty t ti h).1).2,fun t ti h=>ain (ty t ti h).2,fun f fn h=>jD.get ar8 f fn h,aq2,fun f args v e=>(by cases e),orc,by kernel_rfl,fun g q e=>(by cases e)⟩
end Go.Proofs.YteapfopaiocpeaaGreatDoor
namespace Go.Proofs.YteapfopaiocpeaaGreatDoor
set_option linter.unusedSimpArgs false
set_option linter.unusedVariables false
set_option linter.unnecessarySimpa false
open Go.Shelf
theorem x7: ∀(p l:List UInt8),preB (p.map UInt8.toNat) (l.map UInt8.toNat)=p.isPrefixOf l
 |[],l=>by cases l<;>rfl
 |a::p,[]=>rfl
 |a::p,b::l=>by
  show bq (Nat.beq a.toNat b.toNat) (preB (p.map UInt8.toNat) (l.map UInt8.toNat)) false=_
  rw [x7 p l]
  by_cases h:a=b
  ·subst h;rw [Nat.beq_refl];simp [bq,List.isPrefixOf]
  ·have h1:Nat.beq a.toNat b.toNat=false:=by
    rw [Bool.eq_false_iff]
    intro hh
    exact h (UInt8.toNat_inj.1 (Nat.eq_of_beq_eq_true hh))
   rw [h1,ay]
   simp [List.isPrefixOf,h]
theorem xi (p:List UInt8): ∀(l:List UInt8) (i:Nat),aby (p.map UInt8.toNat) (l.map UInt8.toNat) i=if Lib.index l p= -1 then-1 else Lib.index l p+i
 |[],i=>by
  show bq (preB (p.map UInt8.toNat) (([]:List UInt8).map UInt8.toNat)) (Int.ofNat i) (Int.negSucc 0)=_
  rw [x7]
  cases p with
  |nil=>simp [Lib.index,List.isPrefixOf,bq]
  |cons a p=>simp [Lib.index,List.isPrefixOf,bq]
 |a::l,i=>by
  show bq (preB (p.map UInt8.toNat) ((a::l).map UInt8.toNat)) (Int.ofNat i) (aby (p.map UInt8.toNat) (l.map UInt8.toNat) (i+1))=_
  rw [x7,xi p l (i+1)]
  have hge:=Lib.index_ge l p
  cases h:p.isPrefixOf (a::l) with
  |true=>
   have e1:Lib.index (a::l) p=0:=by simp [Lib.index,h]
   rw [aw,e1]
   simp
  |false=>
   rw [ay]
   by_cases h3:Lib.index l p= -1
   ·have e1:Lib.index (a::l) p= -1:=by simp [Lib.index,h,h3]
    rw [e1,if_pos h3,if_pos rfl]
   ·have e1:Lib.index (a::l) p=Lib.index l p+1:=by simp [Lib.index,h,h3]
    rw [e1,if_neg h3,if_neg (by omega)]
    push_cast
    omega
theorem aaN {mx:Int} {ok:Nat→Prop} {w:World} {ρ:Rho} {h:AH} (I:Inv (C0 mx) ok w ρ h):w.cell? ⟨2,0,none⟩=some (.int .i64 mx):=by
 obtain ⟨_,h2⟩:=I.gl 2 [.int 9223372036854775807 mx] rfl
 simp only [VAt] at h2
 obtain ⟨⟨u,h3,h4⟩,_⟩:=h2
 simp only [V] at h4
 obtain ⟨k,h5,rfl⟩:=h4
 cases k<;>first|exact h3|(exact absurd h5 (by decide))
theorem ahe {mx:Int} {args:List AV} {h:AH} {r:AV} {h':AH} (e:ah1 args h=some (r,h')):iE Tryz.prog (C0 mx) 241 args h r h':=by
 refine ⟨⟨_,Tryz.func241,by kernel_rfl,by kernel_rfl⟩,fun ok w ρ us I hv=>?_⟩
 unfold ah1 at e
 split at e
 ·rename_i s p
  obtain ⟨e1,e2⟩:=ax e
  cases e2
  have e1:=Nat.le_of_ble_eq_true e1
  rw [ah] at e1
  simp only [VL] at hv
  obtain ⟨u1,_,rfl,v1,u2,_,rfl,v2,rfl⟩:=hv
  simp only [V] at v1 v2
  obtain ⟨S,rfl,rfl⟩:=v1
  obtain ⟨Q,rfl,rfl⟩:=v2
  have hs:S.size<4294967281:=by
   have:(S.data.toList.map UInt8.toNat).length=S.size:=by simp
   omega
  refine (Any.stringslite_Index asM S Q mx w hs (aaN I)).mono ?_
  rintro en w' ⟨rfl,rfl⟩
  refine ⟨_,ok,ρ,rfl,Ext.refl _ _ _ _,I,?_⟩
  simp only [V]
  refine ⟨.i64,rfl,?_⟩
  rw [xi]
  split
  ·next h=>rw [h]
  ·simp
 ·cases e
end Go.Proofs.YteapfopaiocpeaaGreatDoor
namespace Go.Proofs.YteapfopaiocpeaaGreatDoor
set_option linter.unusedSimpArgs false
set_option linter.unusedVariables false
set_option linter.unnecessarySimpa false
theorem zn (w:World):(callFunc 243 #[]).run Tryz.prog w= .ok (.value (.tuple #[])) w:=run_call_mark0 Tryz.func243 (by kernel_rfl) (by kernel_rfl) (by kernel_rfl) .disable (by kernel_rfl) w
theorem ae2 (w:World):(callFunc 245 #[]).run Tryz.prog w= .ok (.value (.tuple #[])) w:=run_call_mark0 Tryz.func245 (by kernel_rfl) (by kernel_rfl) (by kernel_rfl) .enable (by kernel_rfl) w
theorem aio (a:Addr) (w:World):(callFunc 246 #[.pointer (some a)]).run Tryz.prog w= .ok (.value (.tuple #[])) w:=run_call_marked Tryz.func246 (by kernel_rfl) (by kernel_rfl) (by kernel_rfl) .acquire (by kernel_rfl) a w
theorem ajD (a:Addr) (w:World):(callFunc 248 #[.pointer (some a)]).run Tryz.prog w= .ok (.value (.tuple #[])) w:=run_call_marked Tryz.func248 (by kernel_rfl) (by kernel_rfl) (by kernel_rfl) .releaseMerge (by kernel_rfl) a w
theorem uZ (a:Addr) (x:Value) (u:FrameMode) (w:World) (hc:w.cell? a=some x) (hz:w.frozen? a=false):
 CallsD Tryz.prog 155 #[.pointer (some a),.bool true] u w fun e u' w'=>u'=u∧(e= .returned (.tuple #[])∧w'=w.drew.setCell a (.int .u32 1)):=by
 have hc':w.drew.cell? a=some x:=by go_simp
 have hz':w.drew.frozen? a=false:=by go_simp
 have hst:=run_call_store (P:=Tryz.prog) Tryz.func203 (by kernel_rfl) (by kernel_rfl) (by kernel_rfl) (by kernel_rfl) (k:=.u32) (y:=1) hc' hz'
 go_enter_d Tryz.func155,Tryz.ntmps155
 go_wp2
 go_region_calls
 all_goals (go_end0;exact ⟨rfl,rfl⟩)
set_option maxRecDepth 100000 in
set_option maxHeartbeats 1600000 in
theorem sT (a:Addr) (u:FrameMode) (w:World) (hc:w.cell? a=some (.int .i32 1)) (hz:w.frozen? a=false):
 CallsD Tryz.prog 154 #[.pointer (some a)] u w fun e u' w'=>u'=u∧(e= .returned (.tuple #[])∧w'=w.setCell a (.int .i32 0)):=by
 have hd:=zn
 have he:=ae2
 have hr:=ajD
 have hadd:=run_call_add (P:=Tryz.prog) Tryz.func108 (by kernel_rfl) (by kernel_rfl) (by kernel_rfl) .i32 (by kernel_rfl) (y:= -1) (s:=0) hc hz (by simp [go_sem];rfl)
 have hcv:=run_convert_to_unsafe (P:=Tryz.prog) (src:=417) (dst:=420) Tryz.underlying417 Tryz.underlying420 (by kernel_rfl) hc
 go_enter_d Tryz.func154,Tryz.ntmps154
 go_wp2
 go_end0
 go_wp2
 go_end0
 exact ⟨rfl,rfl⟩
set_option maxRecDepth 100000 in
set_option maxHeartbeats 1600000 in
theorem agk (a:Addr) (w:World) (hc:w.cell? a=some (.int .i32 0)) (hz:w.frozen? a=false):
 Calls Tryz.prog 153 #[.pointer (some a)] w fun e w'=>e= .returned (.tuple #[])∧w'=w.setCell a (.int .i32 1):=by
 have hd:=zn
 have he:=ae2
 have ha:=aio
 have hcas:=run_call_cas_hit (P:=Tryz.prog) Tryz.func244 (by kernel_rfl) (by kernel_rfl) (by kernel_rfl) .i32 (by kernel_rfl) (y:=1) hc hz
 have hc':(w.setCell a (.int .i32 1)).cell? a=some (.int .i32 1):=World.cell?_setCell_same w a _ hc
 have hcv:=run_convert_to_unsafe (P:=Tryz.prog) (src:=417) (dst:=420) Tryz.underlying417 Tryz.underlying420 (by kernel_rfl) hc'
 go_enter Tryz.func153,Tryz.ntmps153
 go_wp2
 first|go_end0|(simp only [Exit.inBlock,Exit.then];refine bodyPost_ret (results_none rfl _ _ _) rfl ?_)|refine bodyPost_ret (results_none rfl _ _ _) rfl ?_
 go_wp2
 go_end0
 exact ⟨rfl,rfl⟩
theorem rL {a b:Int} (h:cj a b=true):a=b:=by
 cases a<;>cases b<;>simp [cj] at h<;>simp [h]
set_option maxRecDepth 100000 in
set_option maxHeartbeats 1600000 in
theorem alo {mx:Int} {run:Run} (H:dg Tryz.prog (C0 mx) run) {args:List AV} {h:AH} {r:AV} {h':AH} (e:ai6 run args h=some (r,h')):iE Tryz.prog (C0 mx) 107 args h r h':=by
 unfold ai6 at e
 split at e
 ·rename_i b o f q z
  obtain ⟨cs0,y0,c0,a1,a2,a3⟩:=dO e
  obtain ⟨d,rfl,a4⟩:=de a3
  obtain ⟨a5,a6⟩:=ax a4
  obtain ⟨cs1,y1,c1,b1,b2,b3⟩:=dO a6
  obtain ⟨m,rfl,b4⟩:=de b3
  obtain ⟨b5,b6⟩:=ax b4
  obtain ⟨⟨u,h2⟩,d1,d2⟩:=ag b6
  obtain ⟨cs2,y2,c2,g1,g2,g3⟩:=dO d2
  obtain ⟨z2,rfl,g4⟩:=de g3
  obtain ⟨cs3,y3,c3,k1,k2,k3⟩:=dO g4
  obtain ⟨m3,rfl,k4⟩:=de k3
  obtain ⟨k5,k6⟩:=ax k4
  cases k6
  rw [a1] at b1;cases b1
  obtain rfl:=rL a5
  obtain rfl:=rL b5
  obtain rfl:=rL k5
  obtain ⟨⟨fn,f1,f2,f3⟩,R⟩:=H _ _ _ _ _ d1
  clear e a3 a4 a5 a6 b3 b4 b5 b6 d1 d2 g3 g4 k3 k4 k5
  refine ⟨⟨_,Tryz.func107,by kernel_rfl,by kernel_rfl⟩,fun ok w ρ us I hv=>?_⟩
  simp only [VL] at hv
  obtain ⟨u1,_,rfl,v1,u2,_,rfl,v2,rfl⟩:=hv
  simp only [V,VL] at v1 v2
  obtain ⟨rb,n1,rfl⟩:=v1
  obtain ⟨fa,fc,rfl,n2,n3⟩:=v2
  obtain ⟨uq,_,n4,n5,rfl⟩:=n3
  obtain ⟨rq,n6,rfl⟩:=n5
  obtain rfl:fa= #[]:=by cases fa;simp_all
  obtain rfl:fc= #[.pointer (some ⟨rq,z,none⟩)]:=by cases fc;simp_all
  obtain ⟨r0,w0,p1,p2,p3,p4,p5⟩:=fE I a1 a2
  rw [n1] at p1;cases p1
  cases mZ (k:=.u32) p3
  obtain ⟨r1,w1,s1,s2,s3,s4,s5⟩:=fE I a1 b2
  rw [n1] at s1;cases s1
  cases mZ (k:=.i32) s3
  obtain ⟨E1,I1⟩:=s5 (.int 2147483647 1) (.int .i32 1) (gP (k:=.i32))
  have C:=R ok _ ρ [.pointer (some ⟨rq,z,none⟩)] I1 (by simp only [VL,V];exact ⟨_,_,rfl,⟨rq,n6,rfl⟩,rfl⟩)
  have eg: ∀args w,(callFunc f args).run Tryz.prog w= .ok (.enter f args) w:=by
   cases hb:fn.body with
   |none=>rw [hb] at f3;cases f3
   |some c=>exact enters_of f1 f2 hb
  have hl:=run_call_load (P:=Tryz.prog) Tryz.func152 (by kernel_rfl) (by kernel_rfl) (by kernel_rfl) .u32 (by kernel_rfl) (w:=w.setCell ⟨rb,o+1,none⟩ (.int .i32 1)) (a:=⟨rb,o,none⟩) (x:=0) ((World.cell?_setCell_other _ ⟨rb,o+1,none⟩ ⟨rb,o,none⟩ _ (by simp)).trans p2)
  have hnot: ∀(x:Bool) (w:World),(Op.unary .not (.bool x)).run Tryz.prog w= .ok (.bool (!x)) w:=fun _ _=>rfl
  go_enter_defers Tryz.func107,Tryz.ntmps107
  go_wp2_with (go_at_call 153;refine (agk ⟨rb,o+1,none⟩ _ (by go_simp) (by go_simp)).mono ?_;rintro e w' ⟨rfl,rfl⟩)
  go_wp2
  refine C.mono ?_
  rintro e w2 ⟨u2,ok2,ρ2,rfl,E2,I2,V2⟩
  have m1:=E2.up.nam b rb n1
  obtain ⟨Ed,Id⟩:=Ext.drew I2 (w2.drawn+1)
  obtain ⟨r2,x2,t1,t2,t3,t4,t5⟩:=fE Id g1 g2
  rw [m1] at t1;cases t1
  obtain ⟨E3,I3⟩:=t5 (.int 4294967295 1) (.int .u32 1) (gP (k:=.u32))
  obtain ⟨r3,x3,l1,l2,l3,l4,l5⟩:=fE I3 k1 k2
  rw [m1] at l1;cases l1
  cases mZ (k:=.i32) l3
  obtain ⟨E4,I4⟩:=l5 (.int 2147483647 0) (.int .i32 0) (gP (k:=.i32))
  go_wp2
  have q2:w2.cell? ⟨rb,o,none⟩=some x2:=by rw [←World.cell?_drew];exact t2
  have q4:w2.frozen? ⟨rb,o,none⟩=false:=by rw [←World.frozen?_drew];exact t4
  refine leaves_cons (f:=155) (args:= #[.pointer (some ⟨rb,o,none⟩),.bool true]) (by simp) (by simp [go_sem]) ?_
  refine (uZ ⟨rb,o,none⟩ x2 .returning _ q2 q4).mono ?_
  rintro e u' w'' ⟨rfl,rfl,rfl⟩
  refine leaves_cons (f:=154) (args:= #[.pointer (some ⟨rb,o+1,none⟩)]) (by simp [settle]) (by simp [go_sem]) ?_
  refine (sT ⟨rb,o+1,none⟩ _ _ l2 l4).mono ?_
  rintro e u' w'' ⟨rfl,rfl,rfl⟩
  have Efin:=Ext.trans I E1 (Ext.trans I1 E2 (Ext.trans I2 Ed (Ext.trans Id E3 E4)))
  refine ⟨.tuple #[],?_,.tuple #[],ok2,ρ2,rfl,Efin,I4,by simp only [V];exact ⟨#[],rfl,by simp only [VL]⟩⟩
  simp [results,Tryz.results107]
 ·cases e
end Go.Proofs.YteapfopaiocpeaaGreatDoor
namespace Go.Proofs.YteapfopaiocpeaaGreatDoor
set_option linter.unusedVariables false
theorem aeI {mx:Int}:aX Tryz.prog (C0 mx):=by
 refine as7 fun f g e run hr args h r h' e2=>?_
 have e:bq (Nat.beq f 241) _ (bq (Nat.beq f 107) _ (none))=some g:=e
 cases h0:Nat.beq f 241 with
 |true=>
  rw [h0,aw] at e
  cases e
  rw [Nat.eq_of_beq_eq_true h0]
  exact ahe e2
 |false=>
  rw [h0,ay] at e
  cases h1:Nat.beq f 107 with
  |true=>
   rw [h1,aw] at e
   cases e
   rw [Nat.eq_of_beq_eq_true h1]
   exact alo hr e2
  |false=>
   rw [h1,ay] at e
   cases e
end Go.Proofs.YteapfopaiocpeaaGreatDoor
namespace Go.Proofs.YteapfopaiocpeaaGreatDoor
set_option linter.unusedSimpArgs false
set_option linter.unusedVariables false
set_option linter.unnecessarySimpa false
open Go.RowKit
theorem am2 {cs : Array Value} {fuel : Nat} {p : List MemPlace} {W : World} (hv : W.var? Tryz.prog "strings.asciiSpace" = some cs) (hd : DataW.trod (fun _ => ()) Tryz.prog W 0 (fun _ => true) false fuel 271 cs.toList = some (Rows.laid_strings_asciiSpace, p)) : VAt (· < W.heap.size) W ap4 ρ0 0 0 := by
 show VAt (· <W.heap.size) W (ascZ.map fun n=>.int (cO .u8) n) ρ0 0 0
 refine ad2 fun r hr=>?_
 rw [Nat.zero_add]
 exact afj (by kernel_rfl) hv Tryz.underlying271 Tryz.underlying5 (by kernel_rfl) (by kernel_rfl) (by kernel_rfl) hd r hr
theorem z8 {W:World} (hs:W.ShapedOpen Tryz.prog): ∃m,W.cell? ⟨2,0,none⟩=some (.int .i64 m):=
 cell_of_shapedOpen_int (t:=3) (zero:= #[.int .i64 0]) hs (of_decide_eq_true (by kernel_rfl)) (by kernel_rfl) rfl (by kernel_rfl) (by kernel_rfl) Tryz.underlying3
theorem vi {w:World} {b o:Nat} {v:Value} (h:w.cell? ⟨b,o,none⟩=some v):b<w.heap.size:=by
 rcases Nat.lt_or_ge b w.heap.size with h1|h1
 ·exact h1
 ·unfold World.cell? at h
  rw [Array.getElem?_eq_none h1] at h
  simp at h
theorem agt {ok:Nat→Prop} {w:World} {l:List AV} {ρ:Rho} {g:Nat} (h:VAt ok w l ρ g 0) (hl:l≠[]):g<w.heap.size:=by
 cases l with
 |nil=>exact absurd rfl hl
 |cons a r=>
  simp only [VAt] at h
  obtain ⟨⟨u,hu,_⟩,_⟩:=h
  exact vi hu
theorem inv0 {W:World} {mx:Int} (t0:VAt (· <W.heap.size) W ap4 ρ0 0 0) (hm:W.cell? ⟨2,0,none⟩=some (.int .i64 mx)):Inv (C0 mx) (· <W.heap.size) W ρ0 []:=by
 refine ⟨fun _ h=>h,fun n r e=>(by cases e),fun n b e=>(by simp [bm] at e),fun n m r hn=>(by simp [bm] at hn),fun g cs e=>?_⟩
 have e:gl0 mx g=some cs:=e
 unfold gl0 at e
 cases h0:Nat.beq g 0 with
 |true=>
  rw [h0,aw] at e
  cases e
  rw [Nat.eq_of_beq_eq_true h0]
  exact ⟨agt t0 (by intro c;have:=congrArg List.length c;revert this;decide+kernel),t0⟩
 |false=>
  rw [h0,ay] at e
  obtain ⟨hg,e⟩:=ax e
  cases e
  rw [Nat.eq_of_beq_eq_true hg]
  refine ⟨vi hm,?_⟩
  simp only [VAt]
  refine ⟨⟨_,hm,?_⟩,trivial⟩
  simp only [V]
  exact ⟨.i64,rfl,rfl⟩
end Go.Proofs.YteapfopaiocpeaaGreatDoor
