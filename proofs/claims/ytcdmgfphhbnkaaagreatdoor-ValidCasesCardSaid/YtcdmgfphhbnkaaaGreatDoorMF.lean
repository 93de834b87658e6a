/- The tables of this program, and its context, which is right. -/
import Derived.Test.YtcdmgfphhbnkaaaGreatDoorProg
import Derived.Test.YtcdmgfphhbnkaaaGreatDoorMA
import Derived.Shelf.Small.Strs
import Derived.Shelf.Strings.Search1
import Derived.Shelf.Strings.Search2
import Derived.Shelf.Strings.Search3
import Derived.Shelf.LaysM
import Derived.Shelf.Strings.Shaped
import Derived.Shelf.Unicode.Latin
import Derived.Shelf.Bits.Mul64
import Derived.Shelf.Unicode.Is16White
import Derived.Shelf.Unicode.IsSpaceAny
import Derived.Shelf.Unicode.Is16Any
import Derived.Shelf.Unicode.Is32Any
import Derived.Shelf.Unicode.ExclAny
import Derived.Test.YtcdmgfphhbnkaaaGreatDoorME
import Derived.Test.YtcdmgfphhbnkaaaGreatDoorRows
import Derived.Lib.Builder
import Derived.Lib.UnsafeStr
import Derived.Shelf.RegionOpenPlain
import Derived.Shelf.Vars
import Derived.LaidMore
import Derived.MakeChecks
namespace Go.Proofs.YtcdmgfphhbnkaaaGreatDoor
noncomputable section
noncomputable def tyT : BT TI := (.nd 185 (.nd 94 (.nd 44 (.nd 22 (.nd 11 (.nd 6 (.nd 3 (.nd 2 (.lf 1 ⟨.func, 1, 8, [.nilf], false, false⟩) (.lf 2 ⟨.int .i64, 1, 8, [.int 9223372036854775807 0], false, true⟩)) (.nd 4 (.lf 3 ⟨.int .i64, 1, 8, [.int 9223372036854775807 0], false, true⟩) (.nd 5 (.lf 4 ⟨.bool, 1, 1, [.bool false], false, true⟩) (.lf 5 ⟨.int .u8, 1, 1, [.int 255 0], false, true⟩)))) (.nd 8 (.nd 7 (.lf 6 ⟨.int .u8, 1, 1, [.int 255 0], false, true⟩) (.lf 7 ⟨.struct [(0, 2), (1, 3), (2, 4), (3, 6)], 4, 24, [.int 9223372036854775807 0, .int 9223372036854775807 0, .bool false, .int 255 0], true, false⟩)) (.nd 9 (.lf 8 ⟨.struct [(0, 2), (1, 3), (2, 4), (3, 6)], 4, 24, [.int 9223372036854775807 0, .int 9223372036854775807 0, .bool false, .int 255 0], true, false⟩) (.nd 10 (.lf 9 ⟨.string, 1, 16, [.str []], false, true⟩) (.lf 10 ⟨.string, 1, 16, [.str []], false, true⟩))))) (.nd 16 (.nd 13 (.nd 12 (.lf 11 ⟨.string, 1, 16, [.str []], false, true⟩) (.lf 12 ⟨.int .u64, 1, 8, [.int 18446744073709551615 0], false, true⟩)) (.nd 14 (.lf 13 ⟨.struct [(0, 9), (1, 12)], 2, 24, [.str [], .int 18446744073709551615 0], true, false⟩) (.nd 15 (.lf 14 ⟨.struct [(0, 9), (1, 12)], 2, 24, [.str [], .int 18446744073709551615 0], true, false⟩) (.lf 15 ⟨.pointer 361, 1, 8, [.nil], false, false⟩)))) (.nd 19 (.nd 17 (.lf 16 ⟨.pointer 364, 1, 8, [.nil], false, false⟩) (.nd 18 (.lf 17 ⟨.pointer 371, 1, 8, [.nil], false, false⟩) (.lf 18 ⟨.struct [(0, 17)], 1, 8, [.nil], true, false⟩))) (.nd 20 (.lf 19 ⟨.struct [(0, 17)], 1, 8, [.nil], true, false⟩) (.nd 21 (.lf 20 ⟨.iface, 1, 16, [.nili], false, false⟩) (.lf 21 ⟨.int .i32, 1, 4, [.int 2147483647 0], false, true⟩)))))) (.nd 32 (.nd 27 (.nd 24 (.nd 23 (.lf 22 ⟨.int .u64, 1, 8, [.int 18446744073709551615 0], false, true⟩) (.lf 23 ⟨.struct [(0, 9), (1, 22), (2, 22)], 3, 32, [.str [], .int 18446744073709551615 0, .int 18446744073709551615 0], true, true⟩)) (.nd 25 (.lf 24 ⟨.struct [(0, 9), (1, 22), (2, 22)], 3, 32, [.str [], .int 18446744073709551615 0, .int 18446744073709551615 0], true, true⟩) (.nd 26 (.lf 25 ⟨.slice 3, 1, 24, [.nils], false, false⟩) (.lf 26 ⟨.slice 4, 1, 24, [.nils], false, false⟩)))) (.nd 29 (.nd 28 (.lf 27 ⟨.slice 163, 1, 24, [.nils], false, false⟩) (.lf 28 ⟨.slice 34, 1, 24, [.nils], false, false⟩)) (.nd 30 (.lf 29 ⟨.struct [(0, 3), (1, 3), (2, 4), (3, 4), (4, 4), (5, 22), (6, 22), (7, 9), (8, 24), (11, 25), (12, 26), (13, 27), (14, 9), (15, 22), (16, 28), (17, 3)], 18, 216, [.int 9223372036854775807 0, .int 9223372036854775807 0, .bool false, .bool false, .bool false, .int 18446744073709551615 0, .int 18446744073709551615 0, .str [], .str [], .int 18446744073709551615 0, .int 18446744073709551615 0, .nils, .nils, .nils, .str [], .int 18446744073709551615 0, .nils, .int 9223372036854775807 0], true, false⟩) (.nd 31 (.lf 30 ⟨.struct [(0, 3), (1, 3), (2, 4), (3, 4), (4, 4), (5, 22), (6, 22), (7, 9), (8, 24), (11, 25), (12, 26), (13, 27), (14, 9), (15, 22), (16, 28), (17, 3)], 18, 216, [.int 9223372036854775807 0, .int 9223372036854775807 0, .bool false, .bool false, .bool false, .int 18446744073709551615 0, .int 18446744073709551615 0, .str [], .str [], .int 18446744073709551615 0, .int 18446744073709551615 0, .nils, .nils, .nils, .str [], .int 18446744073709551615 0, .nils, .int 9223372036854775807 0], true, false⟩) (.lf 31 ⟨.func, 1, 8, [.nilf], false, false⟩))))) (.nd 37 (.nd 34 (.nd 33 (.lf 32 ⟨.func, 1, 8, [.nilf], false, false⟩) (.lf 33 ⟨.struct [(0, 22), (1, 3)], 2, 16, [.int 18446744073709551615 0, .int 9223372036854775807 0], true, true⟩)) (.nd 35 (.lf 34 ⟨.struct [(0, 22), (1, 3)], 2, 16, [.int 18446744073709551615 0, .int 9223372036854775807 0], true, true⟩) (.nd 36 (.lf 35 ⟨.func, 1, 8, [.nilf], false, false⟩) (.lf 36 ⟨.slice 30, 1, 24, [.nils], false, false⟩)))) (.nd 40 (.nd 38 (.lf 37 ⟨.slice 116, 1, 24, [.nils], false, false⟩) (.nd 39 (.lf 38 ⟨.struct [(0, 36), (1, 37)], 2, 48, [.nils, .nils], true, false⟩) (.lf 39 ⟨.struct [(0, 36), (1, 37)], 2, 48, [.nils, .nils], true, false⟩))) (.nd 41 (.lf 40 ⟨.int .i64, 1, 8, [.int 9223372036854775807 0], false, true⟩) (.nd 42 (.lf 41 ⟨.struct [(0, 40), (1, 3)], 2, 16, [.int 9223372036854775807 0, .int 9223372036854775807 0], true, true⟩) (.lf 42 ⟨.struct [(0, 40), (1, 3)], 2, 16, [.int 9223372036854775807 0, .int 9223372036854775807 0], true, true⟩))))))) (.nd 70 (.nd 58 (.nd 50 (.nd 47 (.nd 45 (.lf 44 ⟨.func, 1, 8, [.nilf], false, false⟩) (.lf 45 ⟨.pointer 78, 1, 8, [.nil], false, false⟩)) (.nd 48 (.lf 47 ⟨.func, 1, 8, [.nilf], false, false⟩) (.nd 49 (.lf 48 ⟨.slice 5, 1, 24, [.nils], false, false⟩) (.lf 49 ⟨.slice 51, 1, 24, [.nils], false, false⟩)))) (.nd 53 (.nd 51 (.lf 50 ⟨.struct [(0, 22), (1, 4), (2, 48), (3, 49)], 4, 64, [.int 18446744073709551615 0, .bool false, .nils, .nils], true, false⟩) (.lf 51 ⟨.struct [(0, 22), (1, 4), (2, 48), (3, 49)], 4, 64, [.int 18446744073709551615 0, .bool false, .nils, .nils], true, false⟩)) (.nd 55 (.lf 53 ⟨.func, 1, 8, [.nilf], false, false⟩) (.nd 56 (.lf 55 ⟨.func, 1, 8, [.nilf], false, false⟩) (.lf 56 ⟨.func, 1, 8, [.nilf], false, false⟩))))) (.nd 64 (.nd 60 (.nd 59 (.lf 58 ⟨.func, 1, 8, [.nilf], false, false⟩) (.lf 59 ⟨.func, 1, 8, [.nilf], false, false⟩)) (.nd 62 (.lf 60 ⟨.slice 69, 1, 24, [.nils], false, false⟩) (.nd 63 (.lf 62 ⟨.func, 1, 8, [.nilf], false, false⟩) (.lf 63 ⟨.pointer 67, 1, 8, [.nil], false, false⟩)))) (.nd 67 (.nd 65 (.lf 64 ⟨.struct [(0, 39)], 2, 48, [.nils, .nils], true, false⟩) (.nd 66 (.lf 65 ⟨.struct [(0, 39)], 2, 48, [.nils, .nils], true, false⟩) (.lf 66 ⟨.struct [(0, 60), (1, 3), (2, 65), (4, 42)], 6, 96, [.nils, .int 9223372036854775807 0, .nils, .nils, .int 9223372036854775807 0, .int 9223372036854775807 0], true, false⟩))) (.nd 68 (.lf 67 ⟨.struct [(0, 60), (1, 3), (2, 65), (4, 42)], 6, 96, [.nils, .int 9223372036854775807 0, .nils, .nils, .int 9223372036854775807 0, .int 9223372036854775807 0], true, false⟩) (.nd 69 (.lf 68 ⟨.struct [(0, 3), (1, 3), (2, 9)], 3, 32, [.int 9223372036854775807 0, .int 9223372036854775807 0, .str []], true, true⟩) (.lf 69 ⟨.struct [(0, 3), (1, 3), (2, 9)], 3, 32, [.int 9223372036854775807 0, .int 9223372036854775807 0, .str []], true, true⟩)))))) (.nd 82 (.nd 77 (.nd 73 (.nd 72 (.lf 70 ⟨.func, 1, 8, [.nilf], false, false⟩) (.lf 72 ⟨.func, 1, 8, [.nilf], false, false⟩)) (.nd 75 (.lf 73 ⟨.map 3 128, 1, 8, [.nilm], false, false⟩) (.nd 76 (.lf 75 ⟨.func, 1, 8, [.nilf], false, false⟩) (.lf 76 ⟨.func, 1, 8, [.nilf], false, false⟩)))) (.nd 79 (.nd 78 (.lf 77 ⟨.struct [(0, 39), (2, 73)], 3, 56, [.nils, .nils, .nilm], true, false⟩) (.lf 78 ⟨.struct [(0, 39), (2, 73)], 3, 56, [.nils, .nils, .nilm], true, false⟩)) (.nd 80 (.lf 79 ⟨.pointer 81, 1, 8, [.nil], false, false⟩) (.nd 81 (.lf 80 ⟨.struct [(0, 9), (1, 3), (2, 40)], 3, 32, [.str [], .int 9223372036854775807 0, .int 9223372036854775807 0], true, true⟩) (.lf 81 ⟨.struct [(0, 9), (1, 3), (2, 40)], 3, 32, [.str [], .int 9223372036854775807 0, .int 9223372036854775807 0], true, true⟩))))) (.nd 87 (.nd 84 (.nd 83 (.lf 82 ⟨.func, 1, 8, [.nilf], false, false⟩) (.lf 83 ⟨.func, 1, 8, [.nilf], false, false⟩)) (.nd 85 (.lf 84 ⟨.func, 1, 8, [.nilf], false, false⟩) (.nd 86 (.lf 85 ⟨.pointer 87, 1, 8, [.nil], false, false⟩) (.lf 86 ⟨.struct [(0, 45), (1, 3), (2, 42)], 4, 32, [.nil, .int 9223372036854775807 0, .int 9223372036854775807 0, .int 9223372036854775807 0], true, false⟩)))) (.nd 91 (.nd 89 (.lf 87 ⟨.struct [(0, 45), (1, 3), (2, 42)], 4, 32, [.nil, .int 9223372036854775807 0, .int 9223372036854775807 0, .int 9223372036854775807 0], true, false⟩) (.nd 90 (.lf 89 ⟨.func, 1, 8, [.nilf], false, false⟩) (.lf 90 ⟨.func, 1, 8, [.nilf], false, false⟩))) (.nd 92 (.lf 91 ⟨.func, 1, 8, [.nilf], false, false⟩) (.nd 93 (.lf 92 ⟨.func, 1, 8, [.nilf], false, false⟩) (.lf 93 ⟨.pointer 95, 1, 8, [.nil], false, false⟩)))))))) (.nd 140 (.nd 117 (.nd 105 (.nd 99 (.nd 96 (.nd 95 (.lf 94 ⟨.struct [(0, 93), (1, 48)], 2, 32, [.nil, .nils], true, false⟩) (.lf 95 ⟨.struct [(0, 93), (1, 48)], 2, 32, [.nil, .nils], true, false⟩)) (.nd 97 (.lf 96 ⟨.func, 1, 8, [.nilf], false, false⟩) (.nd 98 (.lf 97 ⟨.func, 1, 8, [.nilf], false, false⟩) (.lf 98 ⟨.pointer 100, 1, 8, [.nil], false, false⟩)))) (.nd 102 (.nd 100 (.lf 99 ⟨.struct [(0, 9), (1, 3), (2, 60)], 3, 48, [.str [], .int 9223372036854775807 0, .nils], true, false⟩) (.lf 100 ⟨.struct [(0, 9), (1, 3), (2, 60)], 3, 48, [.str [], .int 9223372036854775807 0, .nils], true, false⟩)) (.nd 103 (.lf 102 ⟨.func, 1, 8, [.nilf], false, false⟩) (.nd 104 (.lf 103 ⟨.func, 1, 8, [.nilf], false, false⟩) (.lf 104 ⟨.func, 1, 8, [.nilf], false, false⟩))))) (.nd 111 (.nd 107 (.nd 106 (.lf 105 ⟨.func, 1, 8, [.nilf], false, false⟩) (.lf 106 ⟨.pointer 65, 1, 8, [.nil], false, false⟩)) (.nd 108 (.lf 107 ⟨.func, 1, 8, [.nilf], false, false⟩) (.nd 110 (.lf 108 ⟨.pointer 113, 1, 8, [.nil], false, false⟩) (.lf 110 ⟨.func, 1, 8, [.nilf], false, false⟩)))) (.nd 114 (.nd 112 (.lf 111 ⟨.slice 157, 1, 24, [.nils], false, false⟩) (.nd 113 (.lf 112 ⟨.struct [(0, 39), (2, 111), (3, 26), (4, 73), (5, 42)], 7, 120, [.nils, .nils, .nils, .nils, .nilm, .int 9223372036854775807 0, .int 9223372036854775807 0], true, false⟩) (.lf 113 ⟨.struct [(0, 39), (2, 111), (3, 26), (4, 73), (5, 42)], 7, 120, [.nils, .nils, .nils, .nils, .nilm, .int 9223372036854775807 0, .int 9223372036854775807 0], true, false⟩))) (.nd 115 (.lf 114 ⟨.func, 1, 8, [.nilf], false, false⟩) (.nd 116 (.lf 115 ⟨.struct [(0, 9), (1, 3)], 2, 24, [.str [], .int 9223372036854775807 0], true, true⟩) (.lf 116 ⟨.struct [(0, 9), (1, 3)], 2, 24, [.str [], .int 9223372036854775807 0], true, true⟩)))))) (.nd 128 (.nd 123 (.nd 120 (.nd 118 (.lf 117 ⟨.func, 1, 8, [.nilf], false, false⟩) (.lf 118 ⟨.func, 1, 8, [.nilf], false, false⟩)) (.nd 121 (.lf 120 ⟨.func, 1, 8, [.nilf], false, false⟩) (.nd 122 (.lf 121 ⟨.func, 1, 8, [.nilf], false, false⟩) (.lf 122 ⟨.func, 1, 8, [.nilf], false, false⟩)))) (.nd 125 (.nd 124 (.lf 123 ⟨.int .u64, 1, 8, [.int 18446744073709551615 0], false, true⟩) (.lf 124 ⟨.slice 176, 1, 24, [.nils], false, false⟩)) (.nd 126 (.lf 125 ⟨.func, 1, 8, [.nilf], false, false⟩) (.nd 127 (.lf 126 ⟨.func, 1, 8, [.nilf], false, false⟩) (.lf 127 ⟨.func, 1, 8, [.nilf], false, false⟩))))) (.nd 133 (.nd 130 (.nd 129 (.lf 128 ⟨.pointer 203, 1, 8, [.nil], false, false⟩) (.lf 129 ⟨.func, 1, 8, [.nilf], false, false⟩)) (.nd 131 (.lf 130 ⟨.func, 1, 8, [.nilf], false, false⟩) (.nd 132 (.lf 131 ⟨.func, 1, 8, [.nilf], false, false⟩) (.lf 132 ⟨.func, 1, 8, [.nilf], false, false⟩)))) (.nd 136 (.nd 134 (.lf 133 ⟨.func, 1, 8, [.nilf], false, false⟩) (.nd 135 (.lf 134 ⟨.iface, 1, 16, [.nili], false, false⟩) (.lf 135 ⟨.iface, 1, 16, [.nili], false, false⟩))) (.nd 138 (.lf 136 ⟨.func, 1, 8, [.nilf], false, false⟩) (.nd 139 (.lf 138 ⟨.func, 1, 8, [.nilf], false, false⟩) (.lf 139 ⟨.func, 1, 8, [.nilf], false, false⟩))))))) (.nd 162 (.nd 151 (.nd 145 (.nd 142 (.nd 141 (.lf 140 ⟨.pointer 5, 1, 8, [.nil], false, false⟩) (.lf 141 ⟨.func, 1, 8, [.nilf], false, false⟩)) (.nd 143 (.lf 142 ⟨.slice 9, 1, 24, [.nils], false, false⟩) (.nd 144 (.lf 143 ⟨.func, 1, 8, [.nilf], false, false⟩) (.lf 144 ⟨.func, 1, 8, [.nilf], false, false⟩)))) (.nd 147 (.nd 146 (.lf 145 ⟨.func, 1, 8, [.nilf], false, false⟩) (.lf 146 ⟨.func, 1, 8, [.nilf], false, false⟩)) (.nd 149 (.lf 147 ⟨.func, 1, 8, [.nilf], false, false⟩) (.nd 150 (.lf 149 ⟨.func, 1, 8, [.nilf], false, false⟩) (.lf 150 ⟨.func, 1, 8, [.nilf], false, false⟩))))) (.nd 156 (.nd 153 (.nd 152 (.lf 151 ⟨.func, 1, 8, [.nilf], false, false⟩) (.lf 152 ⟨.func, 1, 8, [.nilf], false, false⟩)) (.nd 154 (.lf 153 ⟨.func, 1, 8, [.nilf], false, false⟩) (.nd 155 (.lf 154 ⟨.array 4 22, 4, 32, [.int 18446744073709551615 0, .int 18446744073709551615 0, .int 18446744073709551615 0, .int 18446744073709551615 0], true, true⟩) (.lf 155 ⟨.array 4 22, 4, 32, [.int 18446744073709551615 0, .int 18446744073709551615 0, .int 18446744073709551615 0, .int 18446744073709551615 0], true, true⟩)))) (.nd 159 (.nd 157 (.lf 156 ⟨.struct [(0, 155), (4, 4), (5, 4)], 6, 40, [.int 18446744073709551615 0, .int 18446744073709551615 0, .int 18446744073709551615 0, .int 18446744073709551615 0, .bool false, .bool false], true, true⟩) (.nd 158 (.lf 157 ⟨.struct [(0, 155), (4, 4), (5, 4)], 6, 40, [.int 18446744073709551615 0, .int 18446744073709551615 0, .int 18446744073709551615 0, .int 18446744073709551615 0, .bool false, .bool false], true, true⟩) (.lf 158 ⟨.func, 1, 8, [.nilf], false, false⟩))) (.nd 160 (.lf 159 ⟨.func, 1, 8, [.nilf], false, false⟩) (.nd 161 (.lf 160 ⟨.func, 1, 8, [.nilf], false, false⟩) (.lf 161 ⟨.func, 1, 8, [.nilf], false, false⟩)))))) (.nd 173 (.nd 167 (.nd 164 (.nd 163 (.lf 162 ⟨.struct [(0, 9), (1, 3), (2, 3), (3, 9), (4, 9)], 5, 64, [.str [], .int 9223372036854775807 0, .int 9223372036854775807 0, .str [], .str []], true, true⟩) (.lf 163 ⟨.struct [(0, 9), (1, 3), (2, 3), (3, 9), (4, 9)], 5, 64, [.str [], .int 9223372036854775807 0, .int 9223372036854775807 0, .str [], .str []], true, true⟩)) (.nd 165 (.lf 164 ⟨.func, 1, 8, [.nilf], false, false⟩) (.nd 166 (.lf 165 ⟨.func, 1, 8, [.nilf], false, false⟩) (.lf 166 ⟨.func, 1, 8, [.nilf], false, false⟩)))) (.nd 170 (.nd 168 (.lf 167 ⟨.func, 1, 8, [.nilf], false, false⟩) (.nd 169 (.lf 168 ⟨.func, 1, 8, [.nilf], false, false⟩) (.lf 169 ⟨.func, 1, 8, [.nilf], false, false⟩))) (.nd 171 (.lf 170 ⟨.func, 1, 8, [.nilf], false, false⟩) (.nd 172 (.lf 171 ⟨.func, 1, 8, [.nilf], false, false⟩) (.lf 172 ⟨.func, 1, 8, [.nilf], false, false⟩))))) (.nd 178 (.nd 175 (.nd 174 (.lf 173 ⟨.func, 1, 8, [.nilf], false, false⟩) (.lf 174 ⟨.func, 1, 8, [.nilf], false, false⟩)) (.nd 176 (.lf 175 ⟨.struct [(0, 9), (1, 22)], 2, 24, [.str [], .int 18446744073709551615 0], true, true⟩) (.nd 177 (.lf 176 ⟨.struct [(0, 9), (1, 22)], 2, 24, [.str [], .int 18446744073709551615 0], true, true⟩) (.lf 177 ⟨.map 3 179, 1, 8, [.nilm], false, false⟩)))) (.nd 182 (.nd 179 (.lf 178 ⟨.struct [(0, 51), (4, 3), (5, 3)], 6, 80, [.int 18446744073709551615 0, .bool false, .nils, .nils, .int 9223372036854775807 0, .int 9223372036854775807 0], true, false⟩) (.nd 181 (.lf 179 ⟨.struct [(0, 51), (4, 3), (5, 3)], 6, 80, [.int 18446744073709551615 0, .bool false, .nils, .nils, .int 9223372036854775807 0, .int 9223372036854775807 0], true, false⟩) (.lf 181 ⟨.func, 1, 8, [.nilf], false, false⟩))) (.nd 183 (.lf 182 ⟨.func, 1, 8, [.nilf], false, false⟩) (.nd 184 (.lf 183 ⟨.func, 1, 8, [.nilf], false, false⟩) (.lf 184 ⟨.array 20 5, 20, 20, frep 20 (.int 255 0), true, true⟩))))))))) (.nd 280 (.nd 232 (.nd 210 (.nd 196 (.nd 191 (.nd 187 (.nd 186 (.lf 185 ⟨.array 256 5, 256, 256, frep 256 (.int 255 0), true, true⟩) (.lf 186 ⟨.func, 1, 8, [.nilf], false, false⟩)) (.nd 189 (.lf 187 ⟨.func, 1, 8, [.nilf], false, false⟩) (.nd 190 (.lf 189 ⟨.func, 1, 8, [.nilf], false, false⟩) (.lf 190 ⟨.func, 1, 8, [.nilf], false, false⟩)))) (.nd 193 (.nd 192 (.lf 191 ⟨.func, 1, 8, [.nilf], false, false⟩) (.lf 192 ⟨.func, 1, 8, [.nilf], false, false⟩)) (.nd 194 (.lf 193 ⟨.func, 1, 8, [.nilf], false, false⟩) (.nd 195 (.lf 194 ⟨.func, 1, 8, [.nilf], false, false⟩) (.lf 195 ⟨.func, 1, 8, [.nilf], false, false⟩))))) (.nd 202 (.nd 199 (.nd 197 (.lf 196 ⟨.func, 1, 8, [.nilf], false, false⟩) (.lf 197 ⟨.pointer 221, 1, 8, [.nil], false, false⟩)) (.nd 200 (.lf 199 ⟨.func, 1, 8, [.nilf], false, false⟩) (.nd 201 (.lf 200 ⟨.func, 1, 8, [.nilf], false, false⟩) (.lf 201 ⟨.slice 25, 1, 24, [.nils], false, false⟩)))) (.nd 205 (.nd 203 (.lf 202 ⟨.struct [(0, 185), (256, 201), (257, 26)], 258, 304, [.int 255 0, .int 255 0, .int 255 0, .int 255 0, .int 255 0, .int 255 0, .int 255 0, .int 255 0, .int 255 0, .int 255 0, .int 255 0, .int 255 0, .int 255 0, .int 255 0, .int 255 0, .int 255 0, .int 255 0, .int 255 0, .int 255 0, .int 255 0, .int 255 0, .int 255 0, .int 255 0, .int 255 0, .int 255 0, .int 255 0, .int 255 0, .int 255 0, .int 255 0, .int 255 0, .int 255 0, .int 255 0, .int 255 0, .int 255 0, .int 255 0, .int 255 0, .int 255 0, .int 255 0, .int 255 0, .int 255 0, .int 255 0, .int 255 0, .int 255 0, .int 255 0, .int 255 0, .int 255 0, .int 255 0, .int 255 0, .int 255 0, .int 255 0, .int 255 0, .int 255 0, .int 255 0, .int 255 0, .int 255 0, .int 255 0, .int 255 0, .int 255 0, .int 255 0, .int 255 0, .int 255 0, .int 255 0, .int 255 0, .int 255 0, .int 255 0, .int 255 0, .int 255 0, .int 255 0, .int 255 0, .int 255 0, .int 255 0, .int 255 0, .int 255 0, .int 255 0, .int 255 0, .int 255 0, .int 255 0, .int 255 0, .int 255 0, .int 255 0, .int 255 0, .int 255 0, .int 255 0, .int 255 0, .int 255 0, .int 255 0, .int 255 0, .int 255 0, .int 255 0, .int 255 0, .int 255 0, .int 255 0, .int 255 0, .int 255 0, .int 255 0, .int 255 0, .int 255 0, .int 255 0, .int 255 0, .int 255 0, .int 255 0, .int 255 0, .int 255 0, .int 255 0, .int 255 0, .int 255 0, .int 255 0, .int 255 0, .int 255 0, .int 255 0, .int 255 0, .int 255 0, .int 255 0, .int 255 0, .int 255 0, .int 255 0, .int 255 0, .int 255 0, .int 255 0, .int 255 0, .int 255 0, .int 255 0, .int 255 0, .int 255 0, .int 255 0, .int 255 0, .int 255 0, .int 255 0, .int 255 0, .int 255 0, .int 255 0, .int 255 0, .int 255 0, .int 255 0, .int 255 0, .int 255 0, .int 255 0, .int 255 0, .int 255 0, .int 255 0, .int 255 0, .int 255 0, .int 255 0, .int 255 0, .int 255 0, .int 255 0, .int 255 0, .int 255 0, .int 255 0, .int 255 0, .int 255 0, .int 255 0, .int 255 0, .int 255 0, .int 255 0, .int 255 0, .int 255 0, .int 255 0, .int 255 0, .int 255 0, .int 255 0, .int 255 0, .int 255 0, .int 255 0, .int 255 0, .int 255 0, .int 255 0, .int 255 0, .int 255 0, .int 255 0, .int 255 0, .int 255 0, .int 255 0, .int 255 0, .int 255 0, .int 255 0, .int 255 0, .int 255 0, .int 255 0, .int 255 0, .int 255 0, .int 255 0, .int 255 0, .int 255 0, .int 255 0, .int 255 0, .int 255 0, .int 255 0, .int 255 0, .int 255 0, .int 255 0, .int 255 0, .int 255 0, .int 255 0, .int 255 0, .int 255 0, .int 255 0, .int 255 0, .int 255 0, .int 255 0, .int 255 0, .int 255 0, .int 255 0, .int 255 0, .int 255 0, .int 255 0, .int 255 0, .int 255 0, .int 255 0, .int 255 0, .int 255 0, .int 255 0, .int 255 0, .int 255 0, .int 255 0, .int 255 0, .int 255 0, .int 255 0, .int 255 0, .int 255 0, .int 255 0, .int 255 0, .int 255 0, .int 255 0, .int 255 0, .int 255 0, .int 255 0, .int 255 0, .int 255 0, .int 255 0, .int 255 0, .int 255 0, .int 255 0, .int 255 0, .int 255 0, .int 255 0, .int 255 0, .int 255 0, .int 255 0, .int 255 0, .int 255 0, .int 255 0, .int 255 0, .int 255 0, .int 255 0, .int 255 0, .int 255 0, .int 255 0, .int 255 0, .int 255 0, .int 255 0, .int 255 0, .int 255 0, .int 255 0, .int 255 0, .int 255 0, .nils, .nils], true, false⟩) (.nd 204 (.lf 203 ⟨.struct [(0, 185), (256, 201), (257, 26)], 258, 304, [.int 255 0, .int 255 0, .int 255 0, .int 255 0, .int 255 0, .int 255 0, .int 255 0, .int 255 0, .int 255 0, .int 255 0, .int 255 0, .int 255 0, .int 255 0, .int 255 0, .int 255 0, .int 255 0, .int 255 0, .int 255 0, .int 255 0, .int 255 0, .int 255 0, .int 255 0, .int 255 0, .int 255 0, .int 255 0, .int 255 0, .int 255 0, .int 255 0, .int 255 0, .int 255 0, .int 255 0, .int 255 0, .int 255 0, .int 255 0, .int 255 0, .int 255 0, .int 255 0, .int 255 0, .int 255 0, .int 255 0, .int 255 0, .int 255 0, .int 255 0, .int 255 0, .int 255 0, .int 255 0, .int 255 0, .int 255 0, .int 255 0, .int 255 0, .int 255 0, .int 255 0, .int 255 0, .int 255 0, .int 255 0, .int 255 0, .int 255 0, .int 255 0, .int 255 0, .int 255 0, .int 255 0, .int 255 0, .int 255 0, .int 255 0, .int 255 0, .int 255 0, .int 255 0, .int 255 0, .int 255 0, .int 255 0, .int 255 0, .int 255 0, .int 255 0, .int 255 0, .int 255 0, .int 255 0, .int 255 0, .int 255 0, .int 255 0, .int 255 0, .int 255 0, .int 255 0, .int 255 0, .int 255 0, .int 255 0, .int 255 0, .int 255 0, .int 255 0, .int 255 0, .int 255 0, .int 255 0, .int 255 0, .int 255 0, .int 255 0, .int 255 0, .int 255 0, .int 255 0, .int 255 0, .int 255 0, .int 255 0, .int 255 0, .int 255 0, .int 255 0, .int 255 0, .int 255 0, .int 255 0, .int 255 0, .int 255 0, .int 255 0, .int 255 0, .int 255 0, .int 255 0, .int 255 0, .int 255 0, .int 255 0, .int 255 0, .int 255 0, .int 255 0, .int 255 0, .int 255 0, .int 255 0, .int 255 0, .int 255 0, .int 255 0, .int 255 0, .int 255 0, .int 255 0, .int 255 0, .int 255 0, .int 255 0, .int 255 0, .int 255 0, .int 255 0, .int 255 0, .int 255 0, .int 255 0, .int 255 0, .int 255 0, .int 255 0, .int 255 0, .int 255 0, .int 255 0, .int 255 0, .int 255 0, .int 255 0, .int 255 0, .int 255 0, .int 255 0, .int 255 0, .int 255 0, .int 255 0, .int 255 0, .int 255 0, .int 255 0, .int 255 0, .int 255 0, .int 255 0, .int 255 0, .int 255 0, .int 255 0, .int 255 0, .int 255 0, .int 255 0, .int 255 0, .int 255 0, .int 255 0, .int 255 0, .int 255 0, .int 255 0, .int 255 0, .int 255 0, .int 255 0, .int 255 0, .int 255 0, .int 255 0, .int 255 0, .int 255 0, .int 255 0, .int 255 0, .int 255 0, .int 255 0, .int 255 0, .int 255 0, .int 255 0, .int 255 0, .int 255 0, .int 255 0, .int 255 0, .int 255 0, .int 255 0, .int 255 0, .int 255 0, .int 255 0, .int 255 0, .int 255 0, .int 255 0, .int 255 0, .int 255 0, .int 255 0, .int 255 0, .int 255 0, .int 255 0, .int 255 0, .int 255 0, .int 255 0, .int 255 0, .int 255 0, .int 255 0, .int 255 0, .int 255 0, .int 255 0, .int 255 0, .int 255 0, .int 255 0, .int 255 0, .int 255 0, .int 255 0, .int 255 0, .int 255 0, .int 255 0, .int 255 0, .int 255 0, .int 255 0, .int 255 0, .int 255 0, .int 255 0, .int 255 0, .int 255 0, .int 255 0, .int 255 0, .int 255 0, .int 255 0, .int 255 0, .int 255 0, .int 255 0, .int 255 0, .int 255 0, .int 255 0, .int 255 0, .int 255 0, .int 255 0, .int 255 0, .int 255 0, .int 255 0, .int 255 0, .int 255 0, .int 255 0, .int 255 0, .int 255 0, .int 255 0, .int 255 0, .int 255 0, .int 255 0, .int 255 0, .int 255 0, .int 255 0, .nils, .nils], true, false⟩) (.lf 204 ⟨.func, 1, 8, [.nilf], false, false⟩))) (.nd 207 (.lf 205 ⟨.func, 1, 8, [.nilf], false, false⟩) (.nd 208 (.lf 207 ⟨.func, 1, 8, [.nilf], false, false⟩) (.lf 208 ⟨.func, 1, 8, [.nilf], false, false⟩)))))) (.nd 220 (.nd 215 (.nd 212 (.nd 211 (.lf 210 ⟨.func, 1, 8, [.nilf], false, false⟩) (.lf 211 ⟨.slice 213, 1, 24, [.nils], false, false⟩)) (.nd 213 (.lf 212 ⟨.struct [(0, 3), (1, 3)], 2, 16, [.int 9223372036854775807 0, .int 9223372036854775807 0], true, true⟩) (.nd 214 (.lf 213 ⟨.struct [(0, 3), (1, 3)], 2, 16, [.int 9223372036854775807 0, .int 9223372036854775807 0], true, true⟩) (.lf 214 ⟨.int .u32, 1, 4, [.int 4294967295 0], false, true⟩)))) (.nd 217 (.nd 216 (.lf 215 ⟨.func, 1, 8, [.nilf], false, false⟩) (.lf 216 ⟨.pointer 232, 1, 8, [.nil], false, false⟩)) (.nd 218 (.lf 217 ⟨.func, 1, 8, [.nilf], false, false⟩) (.nd 219 (.lf 218 ⟨.func, 1, 8, [.nilf], false, false⟩) (.lf 219 ⟨.map 3 254, 1, 8, [.nilm], false, false⟩))))) (.nd 225 (.nd 222 (.nd 221 (.lf 220 ⟨.struct [(0, 39), (2, 219)], 3, 56, [.nils, .nils, .nilm], true, false⟩) (.lf 221 ⟨.struct [(0, 39), (2, 219)], 3, 56, [.nils, .nils, .nilm], true, false⟩)) (.nd 223 (.lf 222 ⟨.func, 1, 8, [.nilf], false, false⟩) (.nd 224 (.lf 223 ⟨.func, 1, 8, [.nilf], false, false⟩) (.lf 224 ⟨.func, 1, 8, [.nilf], false, false⟩)))) (.nd 229 (.nd 227 (.lf 225 ⟨.func, 1, 8, [.nilf], false, false⟩) (.nd 228 (.lf 227 ⟨.func, 1, 8, [.nilf], false, false⟩) (.lf 228 ⟨.func, 1, 8, [.nilf], false, false⟩))) (.nd 230 (.lf 229 ⟨.slice 235, 1, 24, [.nils], false, false⟩) (.nd 231 (.lf 230 ⟨.slice 238, 1, 24, [.nils], false, false⟩) (.lf 231 ⟨.struct [(0, 229), (1, 230), (2, 3)], 3, 56, [.nils, .nils, .int 9223372036854775807 0], true, false⟩))))))) (.nd 255 (.nd 242 (.nd 237 (.nd 234 (.nd 233 (.lf 232 ⟨.struct [(0, 229), (1, 230), (2, 3)], 3, 56, [.nils, .nils, .int 9223372036854775807 0], true, false⟩) (.lf 233 ⟨.int .u16, 1, 2, [.int 65535 0], false, true⟩)) (.nd 235 (.lf 234 ⟨.struct [(0, 233), (1, 233), (2, 233)], 3, 6, [.int 65535 0, .int 65535 0, .int 65535 0], true, true⟩) (.nd 236 (.lf 235 ⟨.struct [(0, 233), (1, 233), (2, 233)], 3, 6, [.int 65535 0, .int 65535 0, .int 65535 0], true, true⟩) (.lf 236 ⟨.func, 1, 8, [.nilf], false, false⟩)))) (.nd 239 (.nd 238 (.lf 237 ⟨.struct [(0, 214), (1, 214), (2, 214)], 3, 12, [.int 4294967295 0, .int 4294967295 0, .int 4294967295 0], true, true⟩) (.lf 238 ⟨.struct [(0, 214), (1, 214), (2, 214)], 3, 12, [.int 4294967295 0, .int 4294967295 0, .int 4294967295 0], true, true⟩)) (.nd 240 (.lf 239 ⟨.func, 1, 8, [.nilf], false, false⟩) (.nd 241 (.lf 240 ⟨.func, 1, 8, [.nilf], false, false⟩) (.lf 241 ⟨.pointer 244, 1, 8, [.nil], false, false⟩))))) (.nd 248 (.nd 244 (.nd 243 (.lf 242 ⟨.map 9 3, 1, 8, [.nilm], false, false⟩) (.lf 243 ⟨.struct [(0, 39), (2, 242)], 3, 56, [.nils, .nils, .nilm], true, false⟩)) (.nd 246 (.lf 244 ⟨.struct [(0, 39), (2, 242)], 3, 56, [.nils, .nils, .nilm], true, false⟩) (.nd 247 (.lf 246 ⟨.func, 1, 8, [.nilf], false, false⟩) (.lf 247 ⟨.slice 250, 1, 24, [.nils], false, false⟩)))) (.nd 252 (.nd 249 (.lf 248 ⟨.array 2 9, 2, 32, [.str [], .str []], true, true⟩) (.nd 250 (.lf 249 ⟨.struct [(0, 9), (1, 3), (2, 3), (3, 4)], 4, 40, [.str [], .int 9223372036854775807 0, .int 9223372036854775807 0, .bool false], true, true⟩) (.lf 250 ⟨.struct [(0, 9), (1, 3), (2, 3), (3, 4)], 4, 40, [.str [], .int 9223372036854775807 0, .int 9223372036854775807 0, .bool false], true, true⟩))) (.nd 253 (.lf 252 ⟨.func, 1, 8, [.nilf], false, false⟩) (.nd 254 (.lf 253 ⟨.struct [(0, 3), (1, 3), (2, 3)], 3, 24, [.int 9223372036854775807 0, .int 9223372036854775807 0, .int 9223372036854775807 0], true, true⟩) (.lf 254 ⟨.struct [(0, 3), (1, 3), (2, 3)], 3, 24, [.int 9223372036854775807 0, .int 9223372036854775807 0, .int 9223372036854775807 0], true, true⟩)))))) (.nd 268 (.nd 260 (.nd 257 (.nd 256 (.lf 255 ⟨.func, 1, 8, [.nilf], false, false⟩) (.lf 256 ⟨.func, 1, 8, [.nilf], false, false⟩)) (.nd 258 (.lf 257 ⟨.func, 1, 8, [.nilf], false, false⟩) (.nd 259 (.lf 258 ⟨.slice 260, 1, 24, [.nils], false, false⟩) (.lf 259 ⟨.struct [(0, 3), (1, 154), (5, 258), (6, 3), (7, 3)], 8, 80, [.int 9223372036854775807 0, .int 18446744073709551615 0, .int 18446744073709551615 0, .int 18446744073709551615 0, .int 18446744073709551615 0, .nils, .int 9223372036854775807 0, .int 9223372036854775807 0], true, false⟩)))) (.nd 265 (.nd 262 (.lf 260 ⟨.struct [(0, 3), (1, 154), (5, 258), (6, 3), (7, 3)], 8, 80, [.int 9223372036854775807 0, .int 18446744073709551615 0, .int 18446744073709551615 0, .int 18446744073709551615 0, .int 18446744073709551615 0, .nils, .int 9223372036854775807 0, .int 9223372036854775807 0], true, false⟩) (.nd 264 (.lf 262 ⟨.func, 1, 8, [.nilf], false, false⟩) (.lf 264 ⟨.func, 1, 8, [.nilf], false, false⟩))) (.nd 266 (.lf 265 ⟨.func, 1, 8, [.nilf], false, false⟩) (.nd 267 (.lf 266 ⟨.func, 1, 8, [.nilf], false, false⟩) (.lf 267 ⟨.map 22 4, 1, 8, [.nilm], false, false⟩))))) (.nd 274 (.nd 270 (.nd 269 (.lf 268 ⟨.pointer 235, 1, 8, [.nil], false, false⟩) (.lf 269 ⟨.pointer 238, 1, 8, [.nil], false, false⟩)) (.nd 271 (.lf 270 ⟨.array 24 5, 24, 24, frep 24 (.int 255 0), true, true⟩) (.nd 273 (.lf 271 ⟨.func, 1, 8, [.nilf], false, false⟩) (.lf 273 ⟨.func, 1, 8, [.nilf], false, false⟩)))) (.nd 277 (.nd 275 (.lf 274 ⟨.func, 1, 8, [.nilf], false, false⟩) (.nd 276 (.lf 275 ⟨.func, 1, 8, [.nilf], false, false⟩) (.lf 276 ⟨.pointer 278, 1, 8, [.nil], false, false⟩))) (.nd 278 (.lf 277 ⟨.struct [(0, 9), (1, 3), (2, 3), (3, 42)], 5, 48, [.str [], .int 9223372036854775807 0, .int 9223372036854775807 0, .int 9223372036854775807 0, .int 9223372036854775807 0], true, true⟩) (.nd 279 (.lf 278 ⟨.struct [(0, 9), (1, 3), (2, 3), (3, 42)], 5, 48, [.str [], .int 9223372036854775807 0, .int 9223372036854775807 0, .int 9223372036854775807 0, .int 9223372036854775807 0], true, true⟩) (.lf 279 ⟨.func, 1, 8, [.nilf], false, false⟩)))))))) (.nd 327 (.nd 304 (.nd 293 (.nd 286 (.nd 282 (.nd 281 (.lf 280 ⟨.slice 330, 1, 24, [.nils], false, false⟩) (.lf 281 ⟨.struct [(0, 280), (1, 3)], 2, 32, [.nils, .int 9223372036854775807 0], true, false⟩)) (.nd 284 (.lf 282 ⟨.struct [(0, 280), (1, 3)], 2, 32, [.nils, .int 9223372036854775807 0], true, false⟩) (.nd 285 (.lf 284 ⟨.func, 1, 8, [.nilf], false, false⟩) (.lf 285 ⟨.func, 1, 8, [.nilf], false, false⟩)))) (.nd 289 (.nd 288 (.lf 286 ⟨.func, 1, 8, [.nilf], false, false⟩) (.lf 288 ⟨.func, 1, 8, [.nilf], false, false⟩)) (.nd 291 (.lf 289 ⟨.func, 1, 8, [.nilf], false, false⟩) (.nd 292 (.lf 291 ⟨.func, 1, 8, [.nilf], false, false⟩) (.lf 292 ⟨.func, 1, 8, [.nilf], false, false⟩))))) (.nd 298 (.nd 295 (.nd 294 (.lf 293 ⟨.array 20 22, 20, 160, frep 20 (.int 18446744073709551615 0), true, true⟩) (.lf 294 ⟨.array 65 5, 65, 65, frep 65 (.int 255 0), true, true⟩)) (.nd 296 (.lf 295 ⟨.func, 1, 8, [.nilf], false, false⟩) (.nd 297 (.lf 296 ⟨.func, 1, 8, [.nilf], false, false⟩) (.lf 297 ⟨.func, 1, 8, [.nilf], false, false⟩)))) (.nd 301 (.nd 299 (.lf 298 ⟨.func, 1, 8, [.nilf], false, false⟩) (.nd 300 (.lf 299 ⟨.pointer 301, 1, 8, [.nil], false, false⟩) (.lf 300 ⟨.struct [(0, 282), (2, 4)], 3, 40, [.nils, .int 9223372036854775807 0, .bool false], true, false⟩))) (.nd 302 (.lf 301 ⟨.struct [(0, 282), (2, 4)], 3, 40, [.nils, .int 9223372036854775807 0, .bool false], true, false⟩) (.nd 303 (.lf 302 ⟨.func, 1, 8, [.nilf], false, false⟩) (.lf 303 ⟨.func, 1, 8, [.nilf], false, false⟩)))))) (.nd 315 (.nd 309 (.nd 306 (.nd 305 (.lf 304 ⟨.slice 155, 1, 24, [.nils], false, false⟩) (.lf 305 ⟨.func, 1, 8, [.nilf], false, false⟩)) (.nd 307 (.lf 306 ⟨.func, 1, 8, [.nilf], false, false⟩) (.nd 308 (.lf 307 ⟨.func, 1, 8, [.nilf], false, false⟩) (.lf 308 ⟨.func, 1, 8, [.nilf], false, false⟩)))) (.nd 312 (.nd 311 (.lf 309 ⟨.func, 1, 8, [.nilf], false, false⟩) (.lf 311 ⟨.func, 1, 8, [.nilf], false, false⟩)) (.nd 313 (.lf 312 ⟨.func, 1, 8, [.nilf], false, false⟩) (.nd 314 (.lf 313 ⟨.func, 1, 8, [.nilf], false, false⟩) (.lf 314 ⟨.map 3 3, 1, 8, [.nilm], false, false⟩))))) (.nd 321 (.nd 317 (.nd 316 (.lf 315 ⟨.func, 1, 8, [.nilf], false, false⟩) (.lf 316 ⟨.func, 1, 8, [.nilf], false, false⟩)) (.nd 318 (.lf 317 ⟨.map 3 4, 1, 8, [.nilm], false, false⟩) (.nd 320 (.lf 318 ⟨.func, 1, 8, [.nilf], false, false⟩) (.lf 320 ⟨.func, 1, 8, [.nilf], false, false⟩)))) (.nd 324 (.nd 322 (.lf 321 ⟨.func, 1, 8, [.nilf], false, false⟩) (.nd 323 (.lf 322 ⟨.func, 1, 8, [.nilf], false, false⟩) (.lf 323 ⟨.pointer 3, 1, 8, [.nil], false, false⟩))) (.nd 325 (.lf 324 ⟨.func, 1, 8, [.nilf], false, false⟩) (.nd 326 (.lf 325 ⟨.struct [(0, 3), (1, 155), (5, 4)], 6, 48, [.int 9223372036854775807 0, .int 18446744073709551615 0, .int 18446744073709551615 0, .int 18446744073709551615 0, .int 18446744073709551615 0, .bool false], true, true⟩) (.lf 326 ⟨.struct [(0, 3), (1, 155), (5, 4)], 6, 48, [.int 9223372036854775807 0, .int 18446744073709551615 0, .int 18446744073709551615 0, .int 18446744073709551615 0, .int 18446744073709551615 0, .bool false], true, true⟩))))))) (.nd 350 (.nd 338 (.nd 332 (.nd 329 (.nd 328 (.lf 327 ⟨.array 2 155, 8, 64, [.int 18446744073709551615 0, .int 18446744073709551615 0, .int 18446744073709551615 0, .int 18446744073709551615 0, .int 18446744073709551615 0, .int 18446744073709551615 0, .int 18446744073709551615 0, .int 18446744073709551615 0], true, true⟩) (.lf 328 ⟨.func, 1, 8, [.nilf], false, false⟩)) (.nd 330 (.lf 329 ⟨.map 155 4, 1, 8, [.nilm], false, false⟩) (.nd 331 (.lf 330 ⟨.slice 326, 1, 24, [.nils], false, false⟩) (.lf 331 ⟨.func, 1, 8, [.nilf], false, false⟩)))) (.nd 334 (.nd 333 (.lf 332 ⟨.func, 1, 8, [.nilf], false, false⟩) (.lf 333 ⟨.func, 1, 8, [.nilf], false, false⟩)) (.nd 335 (.lf 334 ⟨.map 9 5, 1, 8, [.nilm], false, false⟩) (.nd 336 (.lf 335 ⟨.array 32 5, 32, 32, frep 32 (.int 255 0), true, true⟩) (.lf 336 ⟨.array 64 5, 64, 64, frep 64 (.int 255 0), true, true⟩))))) (.nd 343 (.nd 340 (.nd 339 (.lf 338 ⟨.func, 1, 8, [.nilf], false, false⟩) (.lf 339 ⟨.func, 1, 8, [.nilf], false, false⟩)) (.nd 341 (.lf 340 ⟨.func, 1, 8, [.nilf], false, false⟩) (.nd 342 (.lf 341 ⟨.func, 1, 8, [.nilf], false, false⟩) (.lf 342 ⟨.func, 1, 8, [.nilf], false, false⟩)))) (.nd 346 (.nd 344 (.lf 343 ⟨.func, 1, 8, [.nilf], false, false⟩) (.nd 345 (.lf 344 ⟨.func, 1, 8, [.nilf], false, false⟩) (.lf 345 ⟨.func, 1, 8, [.nilf], false, false⟩))) (.nd 347 (.lf 346 ⟨.func, 1, 8, [.nilf], false, false⟩) (.nd 348 (.lf 347 ⟨.func, 1, 8, [.nilf], false, false⟩) (.lf 348 ⟨.int .i64, 1, 8, [.int 9223372036854775807 0], false, true⟩)))))) (.nd 361 (.nd 355 (.nd 352 (.nd 351 (.lf 350 ⟨.func, 1, 8, [.nilf], false, false⟩) (.lf 351 ⟨.func, 1, 8, [.nilf], false, false⟩)) (.nd 353 (.lf 352 ⟨.func, 1, 8, [.nilf], false, false⟩) (.nd 354 (.lf 353 ⟨.func, 1, 8, [.nilf], false, false⟩) (.lf 354 ⟨.int .u64, 1, 8, [.int 18446744073709551615 0], false, true⟩)))) (.nd 358 (.nd 356 (.lf 355 ⟨.func, 1, 8, [.nilf], false, false⟩) (.nd 357 (.lf 356 ⟨.func, 1, 8, [.nilf], false, false⟩) (.lf 357 ⟨.func, 1, 8, [.nilf], false, false⟩))) (.nd 359 (.lf 358 ⟨.pointer 354, 1, 8, [.nil], false, false⟩) (.nd 360 (.lf 359 ⟨.func, 1, 8, [.nilf], false, false⟩) (.lf 360 ⟨.struct [(0, 17), (1, 17), (2, 17), (3, 9)], 4, 40, [.nil, .nil, .nil, .str []], true, false⟩))))) (.nd 366 (.nd 363 (.nd 362 (.lf 361 ⟨.struct [(0, 17), (1, 17), (2, 17), (3, 9)], 4, 40, [.nil, .nil, .nil, .str []], true, false⟩) (.lf 362 ⟨.array 0 16, 0, 0, [], true, false⟩)) (.nd 364 (.lf 363 ⟨.struct [(0, 362)], 0, 0, [], true, false⟩) (.nd 365 (.lf 364 ⟨.struct [(0, 362)], 0, 0, [], true, false⟩) (.lf 365 ⟨.int .u8, 1, 1, [.int 255 0], false, true⟩)))) (.nd 369 (.nd 367 (.lf 366 ⟨.int .u8, 1, 1, [.int 255 0], false, true⟩) (.nd 368 (.lf 367 ⟨.func, 1, 8, [.nilf], false, false⟩) (.lf 368 ⟨.int .i32, 1, 4, [.int 2147483647 0], false, true⟩))) (.nd 370 (.lf 369 ⟨.int .i32, 1, 4, [.int 2147483647 0], false, true⟩) (.nd 371 (.lf 370 ⟨.struct [(0, 12), (1, 12), (2, 214), (3, 365), (4, 5), (5, 5), (6, 366), (7, 367), (8, 140), (9, 368), (10, 369)], 11, 48, [.int 18446744073709551615 0, .int 18446744073709551615 0, .int 4294967295 0, .int 255 0, .int 255 0, .int 255 0, .int 255 0, .nilf, .nil, .int 2147483647 0, .int 2147483647 0], true, false⟩) (.lf 371 ⟨.struct [(0, 12), (1, 12), (2, 214), (3, 365), (4, 5), (5, 5), (6, 366), (7, 367), (8, 140), (9, 368), (10, 369)], 11, 48, [.int 18446744073709551615 0, .int 18446744073709551615 0, .int 4294967295 0, .int 255 0, .int 255 0, .int 255 0, .int 255 0, .nilf, .nil, .int 2147483647 0, .int 2147483647 0], true, false⟩))))))))))
noncomputable def fnT : BT Func := (.nd 149 (.nd 74 (.nd 37 (.nd 18 (.nd 9 (.nd 4 (.nd 2 (.nd 1 (.lf 0 Tryz.f0) (.lf 1 Tryz.f1)) (.nd 3 (.lf 2 Tryz.f2) (.lf 3 Tryz.f3))) (.nd 6 (.nd 5 (.lf 4 Tryz.f4) (.lf 5 Tryz.f5)) (.nd 7 (.lf 6 Tryz.f6) (.nd 8 (.lf 7 Tryz.f7) (.lf 8 Tryz.f8))))) (.nd 13 (.nd 11 (.nd 10 (.lf 9 Tryz.f9) (.lf 10 Tryz.f10)) (.nd 12 (.lf 11 Tryz.f11) (.lf 12 Tryz.f12))) (.nd 15 (.nd 14 (.lf 13 Tryz.f13) (.lf 14 Tryz.f14)) (.nd 16 (.lf 15 Tryz.f15) (.nd 17 (.lf 16 Tryz.f16) (.lf 17 Tryz.f17)))))) (.nd 27 (.nd 22 (.nd 20 (.nd 19 (.lf 18 Tryz.f18) (.lf 19 Tryz.f19)) (.nd 21 (.lf 20 Tryz.f20) (.lf 21 Tryz.f21))) (.nd 24 (.nd 23 (.lf 22 Tryz.f22) (.lf 23 Tryz.f23)) (.nd 25 (.lf 24 Tryz.f24) (.nd 26 (.lf 25 Tryz.f25) (.lf 26 Tryz.f26))))) (.nd 32 (.nd 29 (.nd 28 (.lf 27 Tryz.f27) (.lf 28 Tryz.f28)) (.nd 30 (.lf 29 Tryz.f29) (.nd 31 (.lf 30 Tryz.f30) (.lf 31 Tryz.f31)))) (.nd 34 (.nd 33 (.lf 32 Tryz.f32) (.lf 33 Tryz.f33)) (.nd 35 (.lf 34 Tryz.f34) (.nd 36 (.lf 35 Tryz.f35) (.lf 36 Tryz.f36))))))) (.nd 55 (.nd 46 (.nd 41 (.nd 39 (.nd 38 (.lf 37 Tryz.f37) (.lf 38 Tryz.f38)) (.nd 40 (.lf 39 Tryz.f39) (.lf 40 Tryz.f40))) (.nd 43 (.nd 42 (.lf 41 Tryz.f41) (.lf 42 Tryz.f42)) (.nd 44 (.lf 43 Tryz.f43) (.nd 45 (.lf 44 Tryz.f44) (.lf 45 Tryz.f45))))) (.nd 50 (.nd 48 (.nd 47 (.lf 46 Tryz.f46) (.lf 47 Tryz.f47)) (.nd 49 (.lf 48 Tryz.f48) (.lf 49 Tryz.f49))) (.nd 52 (.nd 51 (.lf 50 Tryz.f50) (.lf 51 Tryz.f51)) (.nd 53 (.lf 52 Tryz.f52) (.nd 54 (.lf 53 Tryz.f53) (.lf 54 Tryz.f54)))))) (.nd 64 (.nd 59 (.nd 57 (.nd 56 (.lf 55 Tryz.f55) (.lf 56 Tryz.f56)) (.nd 58 (.lf 57 Tryz.f57) (.lf 58 Tryz.f58))) (.nd 61 (.nd 60 (.lf 59 Tryz.f59) (.lf 60 Tryz.f60)) (.nd 62 (.lf 61 Tryz.f61) (.nd 63 (.lf 62 Tryz.f62) (.lf 63 Tryz.f63))))) (.nd 69 (.nd 66 (.nd 65 (.lf 64 Tryz.f64) (.lf 65 Tryz.f65)) (.nd 67 (.lf 66 Tryz.f66) (.nd 68 (.lf 67 Tryz.f67) (.lf 68 Tryz.f68)))) (.nd 71 (.nd 70 (.lf 69 Tryz.f69) (.lf 70 Tryz.f70)) (.nd 72 (.lf 71 Tryz.f71) (.nd 73 (.lf 72 Tryz.f72) (.lf 73 Tryz.f73)))))))) (.nd 111 (.nd 92 (.nd 83 (.nd 78 (.nd 76 (.nd 75 (.lf 74 Tryz.f74) (.lf 75 Tryz.f75)) (.nd 77 (.lf 76 Tryz.f76) (.lf 77 Tryz.f77))) (.nd 80 (.nd 79 (.lf 78 Tryz.f78) (.lf 79 Tryz.f79)) (.nd 81 (.lf 80 Tryz.f80) (.nd 82 (.lf 81 Tryz.f81) (.lf 82 Tryz.f82))))) (.nd 87 (.nd 85 (.nd 84 (.lf 83 Tryz.f83) (.lf 84 Tryz.f84)) (.nd 86 (.lf 85 Tryz.f85) (.lf 86 Tryz.f86))) (.nd 89 (.nd 88 (.lf 87 Tryz.f87) (.lf 88 Tryz.f88)) (.nd 90 (.lf 89 Tryz.f89) (.nd 91 (.lf 90 Tryz.f90) (.lf 91 Tryz.f91)))))) (.nd 101 (.nd 96 (.nd 94 (.nd 93 (.lf 92 Tryz.f92) (.lf 93 Tryz.f93)) (.nd 95 (.lf 94 Tryz.f94) (.lf 95 Tryz.f95))) (.nd 98 (.nd 97 (.lf 96 Tryz.f96) (.lf 97 Tryz.f97)) (.nd 99 (.lf 98 Tryz.f98) (.nd 100 (.lf 99 Tryz.f99) (.lf 100 Tryz.f100))))) (.nd 106 (.nd 103 (.nd 102 (.lf 101 Tryz.f101) (.lf 102 Tryz.f102)) (.nd 104 (.lf 103 Tryz.f103) (.nd 105 (.lf 104 Tryz.f104) (.lf 105 Tryz.f105)))) (.nd 108 (.nd 107 (.lf 106 Tryz.f106) (.lf 107 Tryz.f107)) (.nd 109 (.lf 108 Tryz.f108) (.nd 110 (.lf 109 Tryz.f109) (.lf 110 Tryz.f110))))))) (.nd 130 (.nd 120 (.nd 115 (.nd 113 (.nd 112 (.lf 111 Tryz.f111) (.lf 112 Tryz.f112)) (.nd 114 (.lf 113 Tryz.f113) (.lf 114 Tryz.f114))) (.nd 117 (.nd 116 (.lf 115 Tryz.f115) (.lf 116 Tryz.f116)) (.nd 118 (.lf 117 Tryz.f117) (.nd 119 (.lf 118 Tryz.f118) (.lf 119 Tryz.f119))))) (.nd 125 (.nd 122 (.nd 121 (.lf 120 Tryz.f120) (.lf 121 Tryz.f121)) (.nd 123 (.lf 122 Tryz.f122) (.nd 124 (.lf 123 Tryz.f123) (.lf 124 Tryz.f124)))) (.nd 127 (.nd 126 (.lf 125 Tryz.f125) (.lf 126 Tryz.f126)) (.nd 128 (.lf 127 Tryz.f127) (.nd 129 (.lf 128 Tryz.f128) (.lf 129 Tryz.f129)))))) (.nd 139 (.nd 134 (.nd 132 (.nd 131 (.lf 130 Tryz.f130) (.lf 131 Tryz.f131)) (.nd 133 (.lf 132 Tryz.f132) (.lf 133 Tryz.f133))) (.nd 136 (.nd 135 (.lf 134 Tryz.f134) (.lf 135 Tryz.f135)) (.nd 137 (.lf 136 Tryz.f136) (.nd 138 (.lf 137 Tryz.f137) (.lf 138 Tryz.f138))))) (.nd 144 (.nd 141 (.nd 140 (.lf 139 Tryz.f139) (.lf 140 Tryz.f140)) (.nd 142 (.lf 141 Tryz.f141) (.nd 143 (.lf 142 Tryz.f142) (.lf 143 Tryz.f143)))) (.nd 146 (.nd 145 (.lf 144 Tryz.f144) (.lf 145 Tryz.f145)) (.nd 147 (.lf 146 Tryz.f146) (.nd 148 (.lf 147 Tryz.f147) (.lf 148 Tryz.f148))))))))) (.nd 223 (.nd 186 (.nd 167 (.nd 158 (.nd 153 (.nd 151 (.nd 150 (.lf 149 Tryz.f149) (.lf 150 Tryz.f150)) (.nd 152 (.lf 151 Tryz.f151) (.lf 152 Tryz.f152))) (.nd 155 (.nd 154 (.lf 153 Tryz.f153) (.lf 154 Tryz.f154)) (.nd 156 (.lf 155 Tryz.f155) (.nd 157 (.lf 156 Tryz.f156) (.lf 157 Tryz.f157))))) (.nd 162 (.nd 160 (.nd 159 (.lf 158 Tryz.f158) (.lf 159 Tryz.f159)) (.nd 161 (.lf 160 Tryz.f160) (.lf 161 Tryz.f161))) (.nd 164 (.nd 163 (.lf 162 Tryz.f162) (.lf 163 Tryz.f163)) (.nd 165 (.lf 164 Tryz.f164) (.nd 166 (.lf 165 Tryz.f165) (.lf 166 Tryz.f166)))))) (.nd 176 (.nd 171 (.nd 169 (.nd 168 (.lf 167 Tryz.f167) (.lf 168 Tryz.f168)) (.nd 170 (.lf 169 Tryz.f169) (.lf 170 Tryz.f170))) (.nd 173 (.nd 172 (.lf 171 Tryz.f171) (.lf 172 Tryz.f172)) (.nd 174 (.lf 173 Tryz.f173) (.nd 175 (.lf 174 Tryz.f174) (.lf 175 Tryz.f175))))) (.nd 181 (.nd 178 (.nd 177 (.lf 176 Tryz.f176) (.lf 177 Tryz.f177)) (.nd 179 (.lf 178 Tryz.f178) (.nd 180 (.lf 179 Tryz.f179) (.lf 180 Tryz.f180)))) (.nd 183 (.nd 182 (.lf 181 Tryz.f181) (.lf 182 Tryz.f182)) (.nd 184 (.lf 183 Tryz.f183) (.nd 185 (.lf 184 Tryz.f184) (.lf 185 Tryz.f185))))))) (.nd 204 (.nd 195 (.nd 190 (.nd 188 (.nd 187 (.lf 186 Tryz.f186) (.lf 187 Tryz.f187)) (.nd 189 (.lf 188 Tryz.f188) (.lf 189 Tryz.f189))) (.nd 192 (.nd 191 (.lf 190 Tryz.f190) (.lf 191 Tryz.f191)) (.nd 193 (.lf 192 Tryz.f192) (.nd 194 (.lf 193 Tryz.f193) (.lf 194 Tryz.f194))))) (.nd 199 (.nd 197 (.nd 196 (.lf 195 Tryz.f195) (.lf 196 Tryz.f196)) (.nd 198 (.lf 197 Tryz.f197) (.lf 198 Tryz.f198))) (.nd 201 (.nd 200 (.lf 199 Tryz.f199) (.lf 200 Tryz.f200)) (.nd 202 (.lf 201 Tryz.f201) (.nd 203 (.lf 202 Tryz.f202) (.lf 203 Tryz.f203)))))) (.nd 213 (.nd 208 (.nd 206 (.nd 205 (.lf 204 Tryz.f204) (.lf 205 Tryz.f205)) (.nd 207 (.lf 206 Tryz.f206) (.lf 207 Tryz.f207))) (.nd 210 (.nd 209 (.lf 208 Tryz.f208) (.lf 209 Tryz.f209)) (.nd 211 (.lf 210 Tryz.f210) (.nd 212 (.lf 211 Tryz.f211) (.lf 212 Tryz.f212))))) (.nd 218 (.nd 215 (.nd 214 (.lf 213 Tryz.f213) (.lf 214 Tryz.f214)) (.nd 216 (.lf 215 Tryz.f215) (.nd 217 (.lf 216 Tryz.f216) (.lf 217 Tryz.f217)))) (.nd 220 (.nd 219 (.lf 218 Tryz.f218) (.lf 219 Tryz.f219)) (.nd 221 (.lf 220 Tryz.f220) (.nd 222 (.lf 221 Tryz.f221) (.lf 222 Tryz.f222)))))))) (.nd 260 (.nd 241 (.nd 232 (.nd 227 (.nd 225 (.nd 224 (.lf 223 Tryz.f223) (.lf 224 Tryz.f224)) (.nd 226 (.lf 225 Tryz.f225) (.lf 226 Tryz.f226))) (.nd 229 (.nd 228 (.lf 227 Tryz.f227) (.lf 228 Tryz.f228)) (.nd 230 (.lf 229 Tryz.f229) (.nd 231 (.lf 230 Tryz.f230) (.lf 231 Tryz.f231))))) (.nd 236 (.nd 234 (.nd 233 (.lf 232 Tryz.f232) (.lf 233 Tryz.f233)) (.nd 235 (.lf 234 Tryz.f234) (.lf 235 Tryz.f235))) (.nd 238 (.nd 237 (.lf 236 Tryz.f236) (.lf 237 Tryz.f237)) (.nd 239 (.lf 238 Tryz.f238) (.nd 240 (.lf 239 Tryz.f239) (.lf 240 Tryz.f240)))))) (.nd 250 (.nd 245 (.nd 243 (.nd 242 (.lf 241 Tryz.f241) (.lf 242 Tryz.f242)) (.nd 244 (.lf 243 Tryz.f243) (.lf 244 Tryz.f244))) (.nd 247 (.nd 246 (.lf 245 Tryz.f245) (.lf 246 Tryz.f246)) (.nd 248 (.lf 247 Tryz.f247) (.nd 249 (.lf 248 Tryz.f248) (.lf 249 Tryz.f249))))) (.nd 255 (.nd 252 (.nd 251 (.lf 250 Tryz.f250) (.lf 251 Tryz.f251)) (.nd 253 (.lf 252 Tryz.f252) (.nd 254 (.lf 253 Tryz.f253) (.lf 254 Tryz.f254)))) (.nd 257 (.nd 256 (.lf 255 Tryz.f255) (.lf 256 Tryz.f256)) (.nd 258 (.lf 257 Tryz.f257) (.nd 259 (.lf 258 Tryz.f258) (.lf 259 Tryz.f259))))))) (.nd 279 (.nd 269 (.nd 264 (.nd 262 (.nd 261 (.lf 260 Tryz.f260) (.lf 261 Tryz.f261)) (.nd 263 (.lf 262 Tryz.f262) (.lf 263 Tryz.f263))) (.nd 266 (.nd 265 (.lf 264 Tryz.f264) (.lf 265 Tryz.f265)) (.nd 267 (.lf 266 Tryz.f266) (.nd 268 (.lf 267 Tryz.f267) (.lf 268 Tryz.f268))))) (.nd 274 (.nd 271 (.nd 270 (.lf 269 Tryz.f269) (.lf 270 Tryz.f270)) (.nd 272 (.lf 271 Tryz.f271) (.nd 273 (.lf 272 Tryz.f272) (.lf 273 Tryz.f273)))) (.nd 276 (.nd 275 (.lf 274 Tryz.f274) (.lf 275 Tryz.f275)) (.nd 277 (.lf 276 Tryz.f276) (.nd 278 (.lf 277 Tryz.f277) (.lf 278 Tryz.f278)))))) (.nd 288 (.nd 283 (.nd 281 (.nd 280 (.lf 279 Tryz.f279) (.lf 280 Tryz.f280)) (.nd 282 (.lf 281 Tryz.f281) (.lf 282 Tryz.f282))) (.nd 285 (.nd 284 (.lf 283 Tryz.f283) (.lf 284 Tryz.f284)) (.nd 286 (.lf 285 Tryz.f285) (.nd 287 (.lf 286 Tryz.f286) (.lf 287 Tryz.f287))))) (.nd 293 (.nd 290 (.nd 289 (.lf 288 Tryz.f288) (.lf 289 Tryz.f289)) (.nd 291 (.lf 290 Tryz.f290) (.nd 292 (.lf 291 Tryz.f291) (.lf 292 Tryz.f292)))) (.nd 295 (.nd 294 (.lf 293 Tryz.f293) (.lf 294 Tryz.f294)) (.nd 296 (.lf 295 Tryz.f295) (.nd 297 (.lf 296 Tryz.f296) (.lf 297 Tryz.f297))))))))))
end
end Go.Proofs.YtcdmgfphhbnkaaaGreatDoor
namespace Go.Proofs.YtcdmgfphhbnkaaaGreatDoor
open Go.Shelf
def sx219_ren : Go.Shelf.Ren := ⟨fun | 219 => 157 | 217 => 84 | 225 => 177 | 224 => 178 | 267 => 179 | 266 => 128 | 314 => 196 | n => n, fun | 9 => 9 | 3 => 3 | 4 => 4 | 5 => 5 | 46 => 123 | 146 => 290 | 51 => 214 | n => n, fun | 1 => 2 | n => n⟩
theorem sx219 : Go.Proofs.Lays.n219 Tryz.prog sx219_ren := {
  mixed := by kernel_rfl
  f217 := Tryz.func84.trans (congrArg some (by kernel_rfl))
  f219 := Tryz.func157.trans (congrArg some (by kernel_rfl))
  f224 := Tryz.func178.trans (congrArg some (by kernel_rfl))
  f225 := Tryz.func177.trans (congrArg some (by kernel_rfl))
  f266 := Tryz.func128.trans (congrArg some (by kernel_rfl))
  f267 := Tryz.func179.trans (congrArg some (by kernel_rfl))
  f314 := Tryz.func196.trans (congrArg some (by kernel_rfl))
  t3 := Tryz.underlying3
  a3 := Tryz.isAgg3
  z3 := Tryz.sizeOf3
  v3 := Tryz.zeroValue3
  t4 := Tryz.underlying4
  a4 := Tryz.isAgg4
  z4 := Tryz.sizeOf4
  v4 := Tryz.zeroValue4
  t5 := Tryz.underlying5
  a5 := Tryz.isAgg5
  z5 := Tryz.sizeOf5
  v5 := Tryz.zeroValue5
  t9 := Tryz.underlying9
  a9 := Tryz.isAgg9
  z9 := Tryz.sizeOf9
  v9 := Tryz.zeroValue9
  t46 := Tryz.underlying123
  a46 := Tryz.isAgg123
  z46 := Tryz.sizeOf123
  v46 := Tryz.zeroValue123
  t51 := Tryz.underlying214
  a51 := Tryz.isAgg214
  z51 := Tryz.sizeOf214
  v51 := Tryz.zeroValue214
  t146 := Tryz.underlying290
  a146 := Tryz.isAgg290
  z146 := Tryz.sizeOf290
  v146 := Tryz.zeroValue290
  g1 := by kernel_rfl }
end Go.Proofs.YtcdmgfphhbnkaaaGreatDoor
namespace Go.Proofs.YtcdmgfphhbnkaaaGreatDoor
noncomputable section
/- internal/stringslite.Index: where a text stands in another one first. -/
def preB (p l : List Nat) : Bool := List.rec (motive := fun _ => List Nat → Bool) (fun _ => true) (fun a _ ih l => List.rec (motive := fun _ => Bool) false (fun b r _ => bq (Nat.beq a b) (ih r) false) l) p l
def idxStr (p l : List Nat) : Nat → Int := List.rec (motive := fun _ => Nat → Int) (fun i => bq (preB p []) (.ofNat i) (.negSucc 0)) (fun a r ih i => bq (preB p (a :: r)) (.ofNat i) (ih (Nat.succ i))) l
def idxO0 (args : List AV) (h : AH) : Option (AV × AH) :=
  match args with
  | [.str s, .str p] => bq (Nat.ble (flen s) 4294967280) (some (.int 9223372036854775807 (idxStr p s 0), h)) none
  | _ => none
/- strings.Builder -/
def cellAt (h : AH) (b o : Nat) : Option AV :=
  match hget h b with
  | some (.cells cs _) => fget cs o
  | _ => none
def cellSet (h : AH) (b o : Nat) (v : AV) : Option AH :=
  match hget h b with
  | some (.cells cs y) => bq (Nat.blt o (flen cs)) (some (fset (some (.cells (fset v cs o) y)) h b)) none
  | _ => none
def copyO0 (args : List AV) (h : AH) : Option (AV × AH) :=
  match args with
  | [.pto b o] => bq (Nat.beq o 0) (match hget h b with
    | some (.cells cs y) => bq (and (Nat.beq y (95 + 1)) (Nat.ble 2 (flen cs))) (match fget cs 0 with
      | some .nil => some (.tup [], fset (some (.cells (fset (.pto b 0) cs 0) y)) h b)
      | some (.pto b' o') => bq (and (Nat.beq b b') (Nat.beq 0 o')) (some (.tup [], h)) none
      | _ => none) none
    | _ => none) none
  | _ => none
def strO0 (args : List AV) (h : AH) : Option (AV × AH) :=
  match args with
  | [.pto b o] => bq (Nat.beq o 0) (match hget h b with
    | some (.cells cs _) => match fget cs 1 with
      | some .nils => some (.str [], h)
      | some (.slo b' o' n _ z _) => bq (and (and (Nat.beq o' 0) (Nat.beq z 1)) (and (Nat.blt 0 n) (Nat.ble n 4294967280))) (match hget h b' with
        | some (.cells cs' y') => bq (and (Nat.beq y' (5 + 1)) (Nat.ble n (flen cs'))) (obind (bytesOf (ftake n cs')) fun x => some (.str x, fset none h b')) none
        | _ => none) none
      | _ => none
    | _ => none) none
  | _ => none
/- tables -/
def asc0 : List AV := (List.range 256).map fun c => .int 255 (if [9,10,11,12,13,32].contains c then 1 else 0)
/- what internal/bytealg.MaxLen holds is not told: any number -/
def gl0 (mx : Int) (g : Nat) : Option (List AV) := bq (Nat.beq g 0) (some asc0) (bq (Nat.beq g 2) (some [.int 9223372036854775807 mx]) none)
def ext0 (f : Nat) : Option (List AV → AH → Option (AV × AH)) :=
  bq (Nat.beq f 152) (some fun args h => obind (addX args) fun v => some (v, h)) (bq (Nat.beq f 128) (some fun args h => obind (idxBX args) fun v => some (v, h)) none)
def orc0 (f : Nat) : Option (Run → List AV → AH → Option (AV × AH)) :=
  bq (Nat.beq f 157) (some fun _ => idxO0) (bq (Nat.beq f 97) (some fun _ => copyO0) (bq (Nat.beq f 28) (some fun _ => strO0) none))
def fzL : List Nat := [6, 13, 64, 18, 7, 8, 37, 117]
def trL : List Nat := [30]
def memN (f : Nat) (l : List Nat) : Bool := List.rec (motive := fun _ => Bool) false (fun a _ ih => bq (Nat.beq f a) true ih) l
def C0 (mx : Int) : Cx := { ty := bget tyT, fn := bget fnT, gl := gl0 mx, orc := orc0, ext := ext0, memo := fun _ _ => none, sq := fun _ => none, fz := fun f => memN f fzL, tr := fun f => memN f trL }
end
end Go.Proofs.YtcdmgfphhbnkaaaGreatDoor
namespace Go.Proofs.YtcdmgfphhbnkaaaGreatDoor
set_option linter.unusedSimpArgs false
set_option linter.unusedVariables false
set_option linter.unnecessarySimpa false
set_option maxRecDepth 100000 in
theorem tyAll : btAll (fun t ti => and (tyChk Tryz.prog t ti) (flChk Tryz.prog t ti)) tyT = true := by decide +kernel
def fnP (f : Nat) (fn : Func) : Prop := Tryz.prog.funcs[f]? = some fn ∧ (fn.name == "runtime.NumGoroutine") = false
set_option maxRecDepth 100000 in
theorem fnAll : BTAll fnP fnT := by
  unfold fnT
  repeat' (first | exact And.intro (by kernel_rfl) (by kernel_rfl) | refine And.intro ?_ ?_)
theorem rowAdd : RowOf Tryz.prog 152 add64Entry := ⟨_, Tryz.func152, by kernel_rfl, by kernel_rfl, by kernel_rfl, by kernel_rfl⟩
theorem rowIdxB : RowOf Tryz.prog 128 Extern.BytealgIndexByte.indexByte := ⟨_, Tryz.func128, by kernel_rfl, by kernel_rfl, by kernel_rfl, by kernel_rfl⟩
theorem cx_ok {mx : Int} (orc : ∀ f g, orc0 f = some g → ∀ run, RunOk Tryz.prog (C0 mx) run → ∀ args h r h', g run args h = some (r, h') → RunAt Tryz.prog (C0 mx) f args h r h') : CxOk Tryz.prog (C0 mx) := by
  have ty : ∀ t ti, (C0 mx).ty t = some ti → tyChk Tryz.prog t ti = true ∧ flChk Tryz.prog t ti = true := fun t ti h => by
    have := btAll_ok tyAll t ti h
    rwa [Bool.and_eq_true] at this
  refine ⟨fun t ti h => (tyChk_ok (ty t ti h).1).1, fun t ti h => (tyChk_ok (ty t ti h).1).2, fun t ti h => flChk_ok (ty t ti h).2, fun f fn h => BTAll.get fnAll f fn h, fun f g e => ?_, fun f args v e => (by cases e), orc, by kernel_rfl⟩
  have e : bq (Nat.beq f 152) _ _ = some g := e
  cases h1 : Nat.beq f 152 with
  | true =>
    rw [h1] at e
    cases e
    rw [Nat.eq_of_beq_eq_true h1]
    exact addX_ok rowAdd
  | false =>
    rw [h1, bq_false] at e
    obtain ⟨h2, e⟩ := bq_some e
    cases e
    rw [Nat.eq_of_beq_eq_true h2]
    exact idxBX_ok rowIdxB
end Go.Proofs.YtcdmgfphhbnkaaaGreatDoor
namespace Go.Proofs.YtcdmgfphhbnkaaaGreatDoor
set_option linter.unusedSimpArgs false
set_option linter.unusedVariables false
set_option linter.unnecessarySimpa false
open Go.Shelf
theorem preB_eq : ∀ (p l : List UInt8), preB (p.map UInt8.toNat) (l.map UInt8.toNat) = p.isPrefixOf l
  | [], l => by cases l <;> rfl
  | a :: p, [] => rfl
  | a :: p, b :: l => by
    show bq (Nat.beq a.toNat b.toNat) (preB (p.map UInt8.toNat) (l.map UInt8.toNat)) false = _
    rw [preB_eq p l]
    by_cases h : a = b
    · subst h; rw [Nat.beq_refl]; simp [bq, List.isPrefixOf]
    · have h1 : Nat.beq a.toNat b.toNat = false := by
        rw [Bool.eq_false_iff]
        intro hh
        exact h (UInt8.toNat_inj.1 (Nat.eq_of_beq_eq_true hh))
      rw [h1, bq_false]
      simp [List.isPrefixOf, h]
theorem idxStr_eq (p : List UInt8) : ∀ (l : List UInt8) (i : Nat), idxStr (p.map UInt8.toNat) (l.map UInt8.toNat) i = if Lib.index l p = -1 then -1 else Lib.index l p + i
  | [], i => by
    show bq (preB (p.map UInt8.toNat) (([] : List UInt8).map UInt8.toNat)) (Int.ofNat i) (Int.negSucc 0) = _
    rw [preB_eq]
    cases p with
    | nil => simp [Lib.index, List.isPrefixOf, bq]
    | cons a p => simp [Lib.index, List.isPrefixOf, bq]
  | a :: l, i => by
    show bq (preB (p.map UInt8.toNat) ((a :: l).map UInt8.toNat)) (Int.ofNat i) (idxStr (p.map UInt8.toNat) (l.map UInt8.toNat) (i + 1)) = _
    rw [preB_eq, idxStr_eq p l (i + 1)]
    have hge := Lib.index_ge l p
    cases h : p.isPrefixOf (a :: l) with
    | true =>
      have e1 : Lib.index (a :: l) p = 0 := by simp [Lib.index, h]
      rw [bq_true, e1]
      simp
    | false =>
      rw [bq_false]
      by_cases h3 : Lib.index l p = -1
      · have e1 : Lib.index (a :: l) p = -1 := by simp [Lib.index, h, h3]
        rw [e1, if_pos h3, if_pos rfl]
      · have e1 : Lib.index (a :: l) p = Lib.index l p + 1 := by simp [Lib.index, h, h3]
        rw [e1, if_neg h3, if_neg (by omega)]
        push_cast
        omega
theorem maxLen_cell {mx : Int} {ok : Nat → Prop} {w : World} {ρ : Rho} {h : AH} (I : Inv (C0 mx) ok w ρ h) : w.cell? ⟨2, 0, none⟩ = some (.int .i64 mx) := by
  obtain ⟨_, h2⟩ := I.gl 2 [.int 9223372036854775807 mx] rfl
  simp only [VAt] at h2
  obtain ⟨⟨u, h3, h4⟩, _⟩ := h2
  simp only [V] at h4
  obtain ⟨k, h5, rfl⟩ := h4
  cases k <;> first | exact h3 | (exact absurd h5 (by decide))
theorem index_orc {mx : Int} {args : List AV} {h : AH} {r : AV} {h' : AH} (e : idxO0 args h = some (r, h')) : RunAt Tryz.prog (C0 mx) 157 args h r h' := by
  refine ⟨⟨_, Tryz.func157, by kernel_rfl, by kernel_rfl⟩, fun ok w ρ us I hv => ?_⟩
  unfold idxO0 at e
  split at e
  · rename_i s p
    obtain ⟨e1, e2⟩ := bq_some e
    cases e2
    have e1 := Nat.le_of_ble_eq_true e1
    rw [flen_eq] at e1
    simp only [VL] at hv
    obtain ⟨u1, _, rfl, v1, u2, _, rfl, v2, rfl⟩ := hv
    simp only [V] at v1 v2
    obtain ⟨S, rfl, rfl⟩ := v1
    obtain ⟨Q, rfl, rfl⟩ := v2
    have hs : S.size < 4294967281 := by
      have : (S.data.toList.map UInt8.toNat).length = S.size := by simp
      omega
    refine (Any.stringslite_Index sx219 S Q mx w hs (maxLen_cell I)).mono ?_
    rintro en w' ⟨rfl, rfl⟩
    refine ⟨_, ok, ρ, rfl, Ext.refl _ _ _ _, I, ?_⟩
    simp only [V]
    refine ⟨.i64, rfl, ?_⟩
    rw [idxStr_eq]
    split
    · next h => rw [h]
    · simp
  · cases e
end Go.Proofs.YtcdmgfphhbnkaaaGreatDoor
namespace Go.Proofs.YtcdmgfphhbnkaaaGreatDoor
set_option linter.unusedSimpArgs false
set_option linter.unusedVariables false
set_option linter.unnecessarySimpa false
open Go.Shelf
theorem lies_here {P : Program} {e : TypeId} {n k : Nat} (hd : P.depth = k + 1) (hs : P.cellsOf e ≠ 0) (hf : sameLayout P P.depth e e = true) (hn : 1 ≤ n) : liesAt P P.depth e n 0 e 1 = true := by
  have h1 : ∀ F : TypeId → Bool, F e = true → rowAt P F (k + 1) e n 0 1 = true := by
    intro F hF
    unfold rowAt
    simp [hs, hF, hn]
  have h2 := h1 (fun x => sameLayout P P.depth x e) hf
  conv => lhs; arg 2; rw [hd]
  unfold liesAt
  rw [hd]
  rw [hd] at h2
  rw [h2]
  rfl
theorem info_bld : (Tryz.prog.info? 95).map (·.size) = some 2 := by kernel_rfl
theorem bld_depth : ∃ k, Tryz.prog.depth = k + 1 := ⟨Tryz.prog.depth - 1, by kernel_rfl⟩
theorem bld_cells : Tryz.prog.cellsOf 95 = 2 := by kernel_rfl
theorem bld_same : sameLayout Tryz.prog Tryz.prog.depth 95 95 = true := by kernel_rfl
theorem setCell_row (w : World) (r j : Nat) (arr : Array Value) (e : TypeId) (fr : Nat × Nat) (v : Value) (h : w.heap[r]? = some (.cells arr e fr)) : w.setCell ⟨r, j, none⟩ v = w.setRow r (arr.setIfInBounds j v) := by
  unfold World.setCell World.setRow
  congr 1
  apply Array.ext_getElem?
  intro i
  simp only [Array.getElem?_modify]
  by_cases hi : r = i
  · subst hi; simp [h]
  · simp [hi]
set_option maxHeartbeats 1000000 in
set_option maxRecDepth 100000 in
theorem copyCheck_fresh (w : World) (r n : Nat) (hsh : w.shape? r = some (95, n)) (hn : 2 ≤ n) (h0 : w.cell? ⟨r, 0, none⟩ = some (.pointer none)) (hf : w.frozen? ⟨r, 0, none⟩ = false) :
    Calls Tryz.prog 97 #[.pointer (some ⟨r, 0, none⟩)] w fun e w' => e = .returned (.tuple #[]) ∧ w' = w.setCell ⟨r, 0, none⟩ (.pointer (some ⟨r, 0, none⟩)) := by
  obtain ⟨j, hj, hjs⟩ := Option.map_eq_some_iff.1 info_bld
  obtain ⟨k, hd⟩ := bld_depth
  have hlies : liesAt Tryz.prog Tryz.prog.depth 95 (n / Tryz.prog.cellsOf 95) 0 95 1 = true := lies_here hd (by rw [bld_cells]; decide) bld_same (by rw [bld_cells]; omega)
  go_enter Tryz.func97, Tryz.ntmps97
  go_wp2
  rw [Lib.run_to_unsafe w ⟨r, 0, none⟩ Tryz.underlying93 Tryz.underlying209 hj (by rw [hjs]; decide) hsh (by show 0 < n; omega)]
  simp only [Result.andThen]
  rw [Oper.upon_value]
  go_wp2
  rw [run_callFunc_extern Tryz.func134 (by kernel_rfl) (by kernel_rfl) (by kernel_rfl) (e := Extern.AbiNoEscape.same) (by kernel_rfl)]
  rw [Lib.run_noEscape]
  simp only [Result.andThen]
  rw [Oper.upon_value]
  go_wp2
  rw [Lib.run_from_unsafe w ⟨r, 0, none⟩ Tryz.underlying209 Tryz.underlying93 hj hsh hlies]
  simp only [Result.andThen]
  rw [Oper.upon_value]
  go_wp2
  go_end0
  exact ⟨rfl, rfl⟩
set_option maxHeartbeats 1000000 in
set_option maxRecDepth 100000 in
theorem copyCheck_used (w : World) (r : Nat) (h0 : w.cell? ⟨r, 0, none⟩ = some (.pointer (some ⟨r, 0, none⟩))) :
    Calls Tryz.prog 97 #[.pointer (some ⟨r, 0, none⟩)] w fun e w' => e = .returned (.tuple #[]) ∧ w' = w := by
  obtain ⟨j, hj, hjs⟩ := Option.map_eq_some_iff.1 info_bld
  go_enter Tryz.func97, Tryz.ntmps97
  go_wp2
  rw [Lib.run_neq_ptr_same w _ Tryz.underlying93 hj]
  go_wp2
  go_end0
  exact ⟨rfl, rfl⟩
theorem copy_orc {mx : Int} {args : List AV} {h : AH} {r : AV} {h' : AH} (e : copyO0 args h = some (r, h')) : RunAt Tryz.prog (C0 mx) 97 args h r h' := by
  refine ⟨⟨_, Tryz.func97, by kernel_rfl, by kernel_rfl⟩, fun ok w ρ us I hv => ?_⟩
  unfold copyO0 at e
  split at e
  · rename_i b o
    obtain ⟨e1, e2⟩ := bq_some e
    have e1 := Nat.eq_of_beq_eq_true e1
    subst e1
    simp only [VL] at hv
    obtain ⟨u1, _, rfl, v1, rfl⟩ := hv
    simp only [V] at v1
    obtain ⟨q, hq, rfl⟩ := v1
    split at e2
    · rename_i cs y hb
      obtain ⟨e3, e4⟩ := bq_some e2
      rw [Bool.and_eq_true] at e3
      have ey := Nat.eq_of_beq_eq_true e3.1
      have el := Nat.le_of_ble_eq_true e3.2
      rw [flen_eq] at el
      obtain ⟨q1, g1, g2, arr0, e0, fr0, g3, g4, g5, g6⟩ := I.live b _ hb
      obtain ⟨q', arr, et, fr, k1, k2, k3, k4, k5, k6, k7⟩ := ext_row I hb
      rw [hq] at g1 k1
      cases g1; cases k1
      rw [g3] at k3; cases k3
      have het : e0 = 95 := by
        rcases g6 with c | c
        · rw [c] at ey; cases ey
        · exact (Nat.succ.inj (ey.symm.trans c)).symm
      subst het
      have hfz : w.frozen? ⟨q, 0, none⟩ = false := by
        obtain ⟨lo, hi⟩ := fr0
        have := g4 0 (by omega)
        simp [World.frozen?, g3]
        simp at this
        omega
      split at e4
      · rename_i hc
        cases e4
        rw [fget_eq] at hc
        obtain ⟨x, c1, c2⟩ := VAt_get g5 hc
        simp only [V] at c2
        subst c2
        refine (copyCheck_fresh w q arr0.size (by simp [World.shape?, g3]) (by omega) (by simpa using c1) hfz).mono ?_
        rintro en w' ⟨rfl, rfl⟩
        obtain ⟨E, I'⟩ := k7 (fset (.pto b 0) cs 0) (arr0.setIfInBounds 0 (.pointer (some ⟨q, 0, none⟩))) (by simp) (by
          rw [fset_eq, List.length_set, Array.toList_setIfInBounds, take_set_list]
          exact VL_set 0 k5 (by simp only [V]; exact ⟨q, hq, rfl⟩))
        rw [setCell_row w q 0 arr0 _ fr0 _ g3]
        refine ⟨_, ok, ρ, rfl, E, I', ?_⟩
        simp only [V]
        exact ⟨#[], rfl, by simp only [VL]⟩
      · rename_i b' o' hc
        obtain ⟨e5, e6⟩ := bq_some e4
        cases e6
        rw [Bool.and_eq_true] at e5
        have eb := Nat.eq_of_beq_eq_true e5.1
        have eo := Nat.eq_of_beq_eq_true e5.2
        subst eb; subst eo
        rw [fget_eq] at hc
        obtain ⟨x, c1, c2⟩ := VAt_get g5 hc
        simp only [V] at c2
        obtain ⟨q2, hq2, rfl⟩ := c2
        rw [hq] at hq2; cases hq2
        refine (copyCheck_used w q (by simpa using c1)).mono ?_
        rintro en w' ⟨rfl, rfl⟩
        refine ⟨_, ok, ρ, rfl, Ext.refl _ _ _ _, I, ?_⟩
        simp only [V]
        exact ⟨#[], rfl, by simp only [VL]⟩
      · cases e4
    · cases e2
  · cases e
end Go.Proofs.YtcdmgfphhbnkaaaGreatDoor
namespace Go.Proofs.YtcdmgfphhbnkaaaGreatDoor
set_option linter.unusedSimpArgs false
set_option linter.unusedVariables false
set_option linter.unnecessarySimpa false
open Go.Shelf
/-- A row changes that nobody names any more. -/
theorem Ext.gone {C : Cx} {ok : Nat → Prop} {w : World} {ρ : Rho} {h : AH} (I : Inv C ok w ρ h) {w' : World} {n r : Nat} {b : Blk} (hn : hget h n = some b) (hr : ρ n = some r)
    (hsz : w'.heap.size = w.heap.size) (hh : ∀ k, k ≠ r → w'.heap[k]? = w.heap[k]?) (hs : ∀ s, w.shape? r = some s → w'.shape? r = some s) (h1 : w'.os = w.os) (h2 : w'.tape = w.tape) (h3 : w'.output = w.output) :
    Ext ok w ρ h ok w' ρ (fset none h n) ∧ Inv C ok w' ρ (fset none h n) := by
  have hnl : hget h n ≠ none := by rw [hn]; simp
  have hln := hget_lt hnl
  have notok : ¬ok r := fun hk => I.apart hk n hnl hr
  have U : Up ok w ρ ok w' ρ := by
    refine ⟨fun k hk => hh k (fun e => notok (e ▸ hk)), fun _ h => h, fun k s hk => ?_, fun _ _ h => h⟩
    by_cases e : k = r
    · subst e; exact hs s hk
    · rw [shape_of_heap (hh k e)]; exact hk
  have liv : ∀ m, hget (fset none h n) m ≠ none → hget h m ≠ none := by
    intro m hm
    rw [hget_set] at hm
    split at hm
    · exact absurd rfl hm
    · exact hm
  refine ⟨⟨U, by omega, h1, h2, h3, by rw [fset_len]; omega, ?_, fun _ h => .inl h, fun m _ => liv m, fun _ _ h => .inl h⟩, ⟨?_, ?_, ?_, fun m k q hm hk => I.inj m k q (liv m hm) (liv k hk), I.glob U⟩⟩
  · intro k hk ha
    exact hh k (fun e => ha n hnl (e ▸ hr))
  · intro k hk; rw [hsz]; exact I.okb k hk
  · intro m k e; rw [fset_len, hsz]; exact I.dom m k e
  · intro m b'' e
    rw [hget_set] at e
    split at e
    · cases e
    · next c =>
      obtain ⟨k, e1, e2, e3⟩ := I.live m b'' e
      refine ⟨k, e1, e2, e3.up U (hh k ?_)⟩
      intro ek
      subst ek
      have := I.inj m n _ (by rw [e]; simp) hnl e1 hr
      exact c ⟨this, hln⟩
set_option maxHeartbeats 1000000 in
set_option maxRecDepth 100000 in
theorem string_nil (w : World) (r : Nat) (h1 : w.cell? ⟨r, 1, none⟩ = some (.slice none 0 0)) :
    Calls Tryz.prog 28 #[.pointer (some ⟨r, 0, none⟩)] w fun e w' => e = .returned (.string ⟨#[]⟩) ∧ w' = w.drew := by
  have c1 : w.drew.cell? ⟨r, 1, none⟩ = some (.slice none 0 0) := h1
  have hUS : ∀ (W : World) (q : Option Addr), (Builtin.unsafeString_ #[140, 3] 9 #[.pointer q, .int .i64 0]).run Tryz.prog W = .ok (.string .empty) W := fun W q => Lib.run_unsafeString_none W _ _ _ q
  have hSD : (Builtin.unsafeSliceData_ #[48] 140 #[.slice none 0 0]).run Tryz.prog w.drew = .ok (.pointer none) w.drew := rfl
  have mixed : Tryz.prog.follows Departure.mixedOrders = true := by kernel_rfl
  go_enter Tryz.func28, Tryz.ntmps28
  go_wp2
  go_region_o
  all_goals (go_wp2; go_ret; exact ⟨rfl, rfl⟩)
set_option maxHeartbeats 1000000 in
set_option maxRecDepth 100000 in
theorem string_some (w : World) (r g cap cells : Nat) (l : List UInt8) (h0 : l ≠ []) (h1 : w.cell? ⟨r, 1, none⟩ = some (.slice (some ⟨g, 0, none⟩) l.length cap)) (hcap : cap ≠ 0) (hsh : w.shape? g = some (5, cells)) (hn : l.length ≤ cells) (h63 : l.length ≤ 9223372036854775807)
    (hcell : ∀ j x, l[j]? = some x → w.cell? ((⟨g, 0, none⟩ : Addr).add j) = some (.int .u8 x.toNat)) :
    Calls Tryz.prog 28 #[.pointer (some ⟨r, 0, none⟩)] w fun e w' => e = .returned (.string ⟨l.toArray⟩) ∧ w' = w.drew.freeze ⟨g, 0, none⟩ l.length := by
  have c1 : w.drew.cell? ⟨r, 1, none⟩ = some (.slice (some ⟨g, 0, none⟩) l.length cap) := h1
  have hSD : (Builtin.unsafeSliceData_ #[48] 140 #[.slice (some ⟨g, 0, none⟩) l.length cap]).run Tryz.prog w.drew = .ok (.pointer (some ⟨g, 0, none⟩)) w.drew :=
    Lib.run_unsafeSliceData_row _ _ _ _ _ _ hcap
  have hUS : (Builtin.unsafeString_ #[140, 3] 9 #[.pointer (some ⟨g, 0, none⟩), .int .i64 l.length]).run Tryz.prog w.drew = .ok (.string ⟨l.toArray⟩) (w.drew.freeze ⟨g, 0, none⟩ l.length) :=
    Lib.run_unsafeString_row w.drew 140 3 9 5 Tryz.underlying140 (by kernel_rfl) g cells hsh l h0 hn h63 hcell
  clear h1 hcap hsh hn h63 hcell h0
  have mixed : Tryz.prog.follows Departure.mixedOrders = true := by kernel_rfl
  go_enter Tryz.func28, Tryz.ntmps28
  go_wp2
  go_region_o
  all_goals (go_wp2; go_ret; exact ⟨rfl, rfl⟩)
end Go.Proofs.YtcdmgfphhbnkaaaGreatDoor
namespace Go.Proofs.YtcdmgfphhbnkaaaGreatDoor
set_option linter.unusedSimpArgs false
set_option linter.unusedVariables false
set_option linter.unnecessarySimpa false
theorem freeze_other (w : World) (g n k : Nat) (hk : k ≠ g) : (w.freeze ⟨g, 0, none⟩ n).heap[k]? = w.heap[k]? := by
  unfold World.freeze
  split
  · rfl
  · simp [Array.getElem?_modify, hk.symm]
theorem freeze_size (w : World) (g n : Nat) : (w.freeze ⟨g, 0, none⟩ n).heap.size = w.heap.size := by
  unfold World.freeze
  split <;> simp
theorem freeze_shape (w : World) (g n : Nat) (s : TypeId × Nat) (h : w.shape? g = some s) : (w.freeze ⟨g, 0, none⟩ n).shape? g = some s := by
  unfold World.freeze
  split
  · exact h
  · unfold World.shape? at h ⊢
    cases hg : w.heap[g]? with
    | none => rw [hg] at h; cases h
    | some o =>
      rw [hg] at h
      simp only [Array.getElem?_modify, hg, if_true, Option.map_some]
      cases o <;> first | exact h | (cases h)
theorem freeze_rest (w : World) (g n : Nat) : (w.freeze ⟨g, 0, none⟩ n).os = w.os ∧ (w.freeze ⟨g, 0, none⟩ n).tape = w.tape ∧ (w.freeze ⟨g, 0, none⟩ n).output = w.output := by
  unfold World.freeze
  split <;> exact ⟨rfl, rfl, rfl⟩
theorem str_orc {mx : Int} {args : List AV} {h : AH} {r : AV} {h' : AH} (e : strO0 args h = some (r, h')) : RunAt Tryz.prog (C0 mx) 28 args h r h' := by
  refine ⟨⟨_, Tryz.func28, by kernel_rfl, by kernel_rfl⟩, fun ok w ρ us I hv => ?_⟩
  unfold strO0 at e
  split at e
  · rename_i b o
    obtain ⟨e1, e2⟩ := bq_some e
    have e1 := Nat.eq_of_beq_eq_true e1
    subst e1
    simp only [VL] at hv
    obtain ⟨u1, _, rfl, v1, rfl⟩ := hv
    simp only [V] at v1
    obtain ⟨q, hq, rfl⟩ := v1
    split at e2
    · rename_i cs y hb
      obtain ⟨q1, g1, g2, arr0, e0, fr0, g3, g4, g5, g6⟩ := I.live b _ hb
      rw [hq] at g1
      cases g1
      split at e2
      · rename_i hc
        cases e2
        rw [fget_eq] at hc
        obtain ⟨x, c1, c2⟩ := VAt_get g5 hc
        simp only [V] at c2
        subst c2
        refine (string_nil w q (by simpa using c1)).mono ?_
        rintro en w' ⟨rfl, rfl⟩
        obtain ⟨E, I'⟩ := Ext.drew I (w.drawn + 1)
        refine ⟨_, ok, ρ, rfl, E, I', ?_⟩
        simp only [V]
        exact ⟨⟨#[]⟩, rfl, rfl⟩
      · rename_i b' o' n c z ex hc
        obtain ⟨e3, e4⟩ := bq_some e2
        simp only [Bool.and_eq_true] at e3
        obtain ⟨⟨e31, e32⟩, e33, e34⟩ := e3
        have e31 := Nat.eq_of_beq_eq_true e31
        have e32 := Nat.eq_of_beq_eq_true e32
        have e33 : 0 < n := Nat.le_of_ble_eq_true e33
        have e34 := Nat.le_of_ble_eq_true e34
        subst e31; subst e32
        split at e4
        · rename_i cs' y' hb'
          obtain ⟨e5, e6⟩ := bq_some e4
          rw [Bool.and_eq_true] at e5
          have ey := Nat.eq_of_beq_eq_true e5.1
          have el := Nat.le_of_ble_eq_true e5.2
          rw [flen_eq] at el
          obtain ⟨x, e7, e8⟩ := obind_eq_some e6
          cases e8
          rw [fget_eq] at hc
          obtain ⟨u, c1, c2⟩ := VAt_get g5 hc
          simp only [V] at c2
          obtain ⟨g, c', r1, rfl, r2, rlc, tt, N, r3, r4⟩ := c2
          obtain ⟨g0, k1, k2, arr, et, fr, k3, k4, k5, k6⟩ := I.live b' _ hb'
          rw [r1] at k1; cases k1
          have het : et = 5 := by
            rcases k6 with c | c
            · rw [c] at ey; cases ey
            · exact (Nat.succ.inj (ey.symm.trans c)).symm
          subst het
          have hsz : cs'.length ≤ arr.size := by
            cases cs' with
            | nil => simp
            | cons a l => have := (VL_of_VAt k3 _ k5).2 (by simp); omega
          rw [ftake_eq] at e7
          obtain ⟨vs, m1, m2⟩ := VAt_vals (VAt_take n k5)
          obtain ⟨m3, m4⟩ := bytes_vals e7 m1
          have ml := VL_len m1
          have hlx : x.length = n := by
            have : vs.length = x.length := by rw [m3]; simp
            have h2 : (cs'.take n).length = n := by simp; omega
            omega
          have hmap : (x.map (·.toUInt8)).map UInt8.toNat = x := by
            rw [List.map_map]
            conv => rhs; rw [← List.map_id x]
            apply List.map_congr_left
            intro a ha
            have := m4 a ha
            simp [Nat.mod_eq_of_lt this]
          have hl : (x.map (·.toUInt8)).length = n := by simp [hlx]
          have run := string_some w q g c' arr.size (x.map (·.toUInt8)) (by intro c; have := congrArg List.length c; simp [hlx] at this; omega) (by rw [hl]; simpa using c1) (by omega) (by simp [World.shape?, k3]) (by omega) (by omega) (by
            intro j v hj
            rw [addr_add]
            have hj' : x[j]? = some v.toNat := by
              have := congrArg (·[j]?) hmap
              simp only [List.getElem?_map] at this
              rw [← this]
              simp only [List.getElem?_map] at hj
              rw [hj]; rfl
            refine m2 j _ ?_
            rw [m3, List.getElem?_map, hj']
            rfl)
          rw [hl] at run
          refine run.mono ?_
          rintro en w' ⟨rfl, rfl⟩
          obtain ⟨E0, I0⟩ := Ext.drew I (w.drawn + 1)
          obtain ⟨E1, I1⟩ := Ext.gone (w' := w.drew.freeze ⟨g, 0, none⟩ n) I0 hb' r1 (freeze_size w.drew g n) (fun k hk => freeze_other w.drew g n k hk) (fun s hs => freeze_shape w.drew g n s hs) (freeze_rest w.drew g n).1 (freeze_rest w.drew g n).2.1 (freeze_rest w.drew g n).2.2
          refine ⟨_, ok, ρ, rfl, Ext.trans I E0 E1, I1, ?_⟩
          simp only [V]
          refine ⟨_, rfl, ?_⟩
          simpa using hmap.symm
        · cases e4
      · cases e2
    · cases e2
  · cases e
theorem c0_ok {mx : Int} : CxOk Tryz.prog (C0 mx) := by
  refine cx_ok fun f g e run hr args h r h' e2 => ?_
  have e : bq (Nat.beq f 157) _ _ = some g := e
  cases h1 : Nat.beq f 157 with
  | true =>
    rw [h1] at e
    cases e
    rw [Nat.eq_of_beq_eq_true h1]
    exact index_orc e2
  | false =>
    rw [h1, bq_false] at e
    cases h2 : Nat.beq f 97 with
    | true =>
      rw [h2] at e
      cases e
      rw [Nat.eq_of_beq_eq_true h2]
      exact copy_orc e2
    | false =>
      rw [h2, bq_false] at e
      obtain ⟨h3, e⟩ := bq_some e
      cases e
      rw [Nat.eq_of_beq_eq_true h3]
      exact str_orc e2
end Go.Proofs.YtcdmgfphhbnkaaaGreatDoor
namespace Go.Proofs.YtcdmgfphhbnkaaaGreatDoor
set_option linter.unusedSimpArgs false
set_option linter.unusedVariables false
set_option linter.unnecessarySimpa false
open Go.RowKit
def ascZ : List Int := (List.range 256).map fun c => if [9,10,11,12,13,32].contains c then 1 else 0
theorem asc_eq : asc0 = ascZ.map fun n => .int (maxN .u8) n := by
  unfold asc0 ascZ
  rw [List.map_map]
  rfl
theorem asc_inv {cs : Array Value} {fuel : Nat} {p : List MemPlace} {W : World} (hv : W.var? Tryz.prog "strings.asciiSpace" = some cs) (hd : DataW.trod (fun _ => ()) Tryz.prog W 0 (fun _ => true) false fuel 185 cs.toList = some (Rows.laid_strings_asciiSpace, p)) : VAt (· < W.heap.size) W asc0 ρ0 0 0 := by
  rw [asc_eq]
  refine VAt_tab fun r hr => ?_
  rw [Nat.zero_add]
  exact tab_cells (by kernel_rfl) hv Tryz.underlying185 Tryz.underlying5 (by kernel_rfl) (by kernel_rfl) (by kernel_rfl) hd r hr
theorem maxLen_some {W : World} (hs : W.ShapedOpen Tryz.prog) : ∃ m, W.cell? ⟨2, 0, none⟩ = some (.int .i64 m) :=
  cell_of_shapedOpen_int (t := 3) (zero := #[.int .i64 0]) hs (of_decide_eq_true (by kernel_rfl)) (by kernel_rfl) rfl (by kernel_rfl) (by kernel_rfl) Tryz.underlying3
theorem cell_block {w : World} {b o : Nat} {v : Value} (h : w.cell? ⟨b, o, none⟩ = some v) : b < w.heap.size := by
  rcases Nat.lt_or_ge b w.heap.size with h1 | h1
  · exact h1
  · unfold World.cell? at h
    rw [Array.getElem?_eq_none h1] at h
    simp at h
theorem inv0 {W : World} {mx : Int} (h1 : VAt (· < W.heap.size) W asc0 ρ0 0 0) (h2 : W.cell? ⟨2, 0, none⟩ = some (.int .i64 mx)) : Inv (C0 mx) (· < W.heap.size) W ρ0 [] := by
  refine ⟨fun _ h => h, fun n r e => (by cases e), fun n b e => (by simp [hget_eq] at e), fun n m r hn => (by simp [hget_eq] at hn), fun g cs e => ?_⟩
  have e : bq (Nat.beq g 0) (some asc0) (bq (Nat.beq g 2) (some [.int 9223372036854775807 mx]) none) = some cs := e
  cases hg : Nat.beq g 0 with
  | true =>
    rw [hg] at e
    cases e
    rw [Nat.eq_of_beq_eq_true hg]
    refine ⟨?_, h1⟩
    have h1' := h1
    rw [asc_eq, show ascZ = 0 :: ascZ.tail from rfl, List.map_cons] at h1'
    simp only [VAt] at h1'
    obtain ⟨⟨u, hu, _⟩, _⟩ := h1'
    exact cell_block hu
  | false =>
    rw [hg, bq_false] at e
    obtain ⟨hm, e⟩ := bq_some e
    cases e
    rw [Nat.eq_of_beq_eq_true hm]
    refine ⟨cell_block h2, ?_⟩
    simp only [VAt]
    refine ⟨⟨_, h2, ?_⟩, trivial⟩
    simp only [V]
    exact ⟨.i64, rfl, rfl⟩
end Go.Proofs.YtcdmgfphhbnkaaaGreatDoor
