/- The tables of this program, and its context, which is right. -/
import Derived.Test.YtdkioifmieamoaaGreatDoorProg
import Derived.Test.YtdkioifmieamoaaGreatDoorMA
import Derived.Shelf.Strings.Builder1
import Derived.Shelf.Small.Bits
import Derived.Shelf.Strconv.Itoa0
import Derived.Shelf.Strconv.Itoa1
import Derived.Shelf.LaysM
import Derived.Shelf.Strconv.Itoa2
import Derived.Shelf.Strconv.Itoa3
import Derived.Shelf.Strings.Search1
import Derived.Shelf.Strings.Search2
import Derived.Shelf.Strings.Search3
import Derived.Shelf.Strings.Shaped
import Derived.Shelf.Strings.Fields
import Derived.Shelf.Strings.SplitShaped
import Derived.Shelf.Unicode.Latin
import Derived.Shelf.Bits.Mul64
import Derived.Shelf.Unicode.Is16White
import Derived.Shelf.Unicode.IsSpaceAny
import Derived.Shelf.Unicode.Is16Any
import Derived.Shelf.Unicode.Is32Any
import Derived.Shelf.Unicode.ExclAny
import Derived.Ground.Names2Prog
import Derived.Shelf.Slices.Clone
import Derived.Shelf.Slices.SearchI
import Derived.Shelf.Slices.Delete
import Derived.Shelf.Slices.Cells
import Derived.Shelf.Slices.Empties
import Derived.Ground.SlgnProg
import Derived.Shelf.SlicesE.Clone
import Derived.Test.YtdkioifmieamoaaGreatDoorME
import Derived.Test.YtdkioifmieamoaaGreatDoorRows
import Derived.Lib.Builder
import Derived.Lib.UnsafeStr
import Derived.Shelf.RegionOpenPlain
import Derived.WalkKit
import Derived.Tactics
import Derived.Tactics2
import Derived.Defers
import Derived.Laws.Pointers
import Derived.Laws.LoneSync
import Derived.RegionTactic
import Derived.RegionCalls
import Derived.Shelf.Abstract
import Derived.Shelf.Vars
import Derived.LaidMore
import Derived.MakeChecks
namespace Go.Proofs.YtdkioifmieamoaaGreatDoor
noncomputable section
noncomputable def tyT : BT TI := (.nd 283 (.nd 138 (.nd 71 (.nd 34 (.nd 17 (.nd 9 (.nd 5 (.nd 3 (.nd 2 (.lf 1 ⟨.func, 1, 8, [.nilf], false, false⟩) (.lf 2 ⟨.int .i64, 1, 8, [.int 9223372036854775807 0], false, true⟩)) (.nd 4 (.lf 3 ⟨.int .i64, 1, 8, [.int 9223372036854775807 0], false, true⟩) (.lf 4 ⟨.bool, 1, 1, [.bool false], false, true⟩))) (.nd 7 (.nd 6 (.lf 5 ⟨.int .u8, 1, 1, [.int 255 0], false, true⟩) (.lf 6 ⟨.int .u8, 1, 1, [.int 255 0], false, true⟩)) (.nd 8 (.lf 7 ⟨.struct [(0, 2), (1, 3), (2, 4), (3, 6)], 4, 24, [.int 9223372036854775807 0, .int 9223372036854775807 0, .bool false, .int 255 0], true, false⟩) (.lf 8 ⟨.struct [(0, 2), (1, 3), (2, 4), (3, 6)], 4, 24, [.int 9223372036854775807 0, .int 9223372036854775807 0, .bool false, .int 255 0], true, false⟩)))) (.nd 13 (.nd 11 (.nd 10 (.lf 9 ⟨.string, 1, 16, [.str []], false, true⟩) (.lf 10 ⟨.string, 1, 16, [.str []], false, true⟩)) (.nd 12 (.lf 11 ⟨.string, 1, 16, [.str []], false, true⟩) (.lf 12 ⟨.int .u64, 1, 8, [.int 18446744073709551615 0], false, true⟩))) (.nd 15 (.nd 14 (.lf 13 ⟨.struct [(0, 9), (1, 12)], 2, 24, [.str [], .int 18446744073709551615 0], true, false⟩) (.lf 14 ⟨.struct [(0, 9), (1, 12)], 2, 24, [.str [], .int 18446744073709551615 0], true, false⟩)) (.nd 16 (.lf 15 ⟨.pointer 559, 1, 8, [.nil], false, false⟩) (.lf 16 ⟨.pointer 562, 1, 8, [.nil], false, false⟩))))) (.nd 25 (.nd 21 (.nd 19 (.nd 18 (.lf 17 ⟨.pointer 569, 1, 8, [.nil], false, false⟩) (.lf 18 ⟨.struct [(0, 17)], 1, 8, [.nil], true, false⟩)) (.nd 20 (.lf 19 ⟨.struct [(0, 17)], 1, 8, [.nil], true, false⟩) (.lf 20 ⟨.iface, 1, 16, [.nili], false, false⟩))) (.nd 23 (.nd 22 (.lf 21 ⟨.int .i32, 1, 4, [.int 2147483647 0], false, true⟩) (.lf 22 ⟨.slice 9, 1, 24, [.nils], false, false⟩)) (.nd 24 (.lf 23 ⟨.slice 3, 1, 24, [.nils], false, false⟩) (.lf 24 ⟨.func, 1, 8, [.nilf], false, false⟩)))) (.nd 29 (.nd 27 (.nd 26 (.lf 25 ⟨.pointer 92, 1, 8, [.nil], false, false⟩) (.lf 26 ⟨.func, 1, 8, [.nilf], false, false⟩)) (.nd 28 (.lf 27 ⟨.slice 5, 1, 24, [.nils], false, false⟩) (.lf 28 ⟨.int .i64, 1, 8, [.int 9223372036854775807 0], false, true⟩))) (.nd 31 (.nd 30 (.lf 29 ⟨.func, 1, 8, [.nilf], false, false⟩) (.lf 30 ⟨.func, 1, 8, [.nilf], false, false⟩)) (.nd 32 (.lf 31 ⟨.func, 1, 8, [.nilf], false, false⟩) (.nd 33 (.lf 32 ⟨.func, 1, 8, [.nilf], false, false⟩) (.lf 33 ⟨.func, 1, 8, [.nilf], false, false⟩))))))) (.nd 53 (.nd 43 (.nd 39 (.nd 36 (.nd 35 (.lf 34 ⟨.func, 1, 8, [.nilf], false, false⟩) (.lf 35 ⟨.pointer 89, 1, 8, [.nil], false, false⟩)) (.nd 37 (.lf 36 ⟨.func, 1, 8, [.nilf], false, false⟩) (.lf 37 ⟨.func, 1, 8, [.nilf], false, false⟩))) (.nd 41 (.nd 40 (.lf 39 ⟨.func, 1, 8, [.nilf], false, false⟩) (.lf 40 ⟨.int .u64, 1, 8, [.int 18446744073709551615 0], false, true⟩)) (.nd 42 (.lf 41 ⟨.slice 43, 1, 24, [.nils], false, false⟩) (.lf 42 ⟨.struct [(0, 40), (1, 4), (2, 27), (3, 41)], 4, 64, [.int 18446744073709551615 0, .bool false, .nils, .nils], true, false⟩)))) (.nd 48 (.nd 45 (.nd 44 (.lf 43 ⟨.struct [(0, 40), (1, 4), (2, 27), (3, 41)], 4, 64, [.int 18446744073709551615 0, .bool false, .nils, .nils], true, false⟩) (.lf 44 ⟨.struct [(0, 28), (1, 3)], 2, 16, [.int 9223372036854775807 0, .int 9223372036854775807 0], true, true⟩)) (.nd 47 (.lf 45 ⟨.struct [(0, 28), (1, 3)], 2, 16, [.int 9223372036854775807 0, .int 9223372036854775807 0], true, true⟩) (.lf 47 ⟨.func, 1, 8, [.nilf], false, false⟩))) (.nd 51 (.nd 49 (.lf 48 ⟨.struct [(0, 3), (1, 3), (2, 3)], 3, 24, [.int 9223372036854775807 0, .int 9223372036854775807 0, .int 9223372036854775807 0], true, true⟩) (.lf 49 ⟨.struct [(0, 3), (1, 3), (2, 3)], 3, 24, [.int 9223372036854775807 0, .int 9223372036854775807 0, .int 9223372036854775807 0], true, true⟩)) (.nd 52 (.lf 51 ⟨.func, 1, 8, [.nilf], false, false⟩) (.lf 52 ⟨.func, 1, 8, [.nilf], false, false⟩))))) (.nd 62 (.nd 58 (.nd 56 (.nd 54 (.lf 53 ⟨.struct [(0, 40), (1, 3), (2, 3)], 3, 24, [.int 18446744073709551615 0, .int 9223372036854775807 0, .int 9223372036854775807 0], true, true⟩) (.lf 54 ⟨.struct [(0, 40), (1, 3), (2, 3)], 3, 24, [.int 18446744073709551615 0, .int 9223372036854775807 0, .int 9223372036854775807 0], true, true⟩)) (.nd 57 (.lf 56 ⟨.func, 1, 8, [.nilf], false, false⟩) (.lf 57 ⟨.func, 1, 8, [.nilf], false, false⟩))) (.nd 60 (.nd 59 (.lf 58 ⟨.struct [(0, 40), (1, 40), (2, 40), (3, 40), (4, 40)], 5, 40, [.int 18446744073709551615 0, .int 18446744073709551615 0, .int 18446744073709551615 0, .int 18446744073709551615 0, .int 18446744073709551615 0], true, true⟩) (.lf 59 ⟨.struct [(0, 40), (1, 40), (2, 40), (3, 40), (4, 40)], 5, 40, [.int 18446744073709551615 0, .int 18446744073709551615 0, .int 18446744073709551615 0, .int 18446744073709551615 0, .int 18446744073709551615 0], true, true⟩)) (.nd 61 (.lf 60 ⟨.func, 1, 8, [.nilf], false, false⟩) (.lf 61 ⟨.slice 194, 1, 24, [.nils], false, false⟩)))) (.nd 66 (.nd 64 (.nd 63 (.lf 62 ⟨.slice 141, 1, 24, [.nils], false, false⟩) (.lf 63 ⟨.struct [(0, 61), (1, 62)], 2, 48, [.nils, .nils], true, false⟩)) (.nd 65 (.lf 64 ⟨.struct [(0, 61), (1, 62)], 2, 48, [.nils, .nils], true, false⟩) (.lf 65 ⟨.struct [], 0, 0, [], true, true⟩))) (.nd 68 (.nd 67 (.lf 66 ⟨.struct [], 0, 0, [], true, true⟩) (.lf 67 ⟨.struct [], 0, 0, [], true, true⟩)) (.nd 69 (.lf 68 ⟨.int .u32, 1, 4, [.int 4294967295 0], false, true⟩) (.nd 70 (.lf 69 ⟨.struct [(0, 67), (0, 68)], 1, 4, [.int 4294967295 0], true, false⟩) (.lf 70 ⟨.struct [(0, 67), (0, 68)], 1, 4, [.int 4294967295 0], true, false⟩)))))))) (.nd 104 (.nd 87 (.nd 79 (.nd 75 (.nd 73 (.nd 72 (.lf 71 ⟨.struct [(0, 21), (1, 68)], 2, 8, [.int 2147483647 0, .int 4294967295 0], true, true⟩) (.lf 72 ⟨.struct [(0, 21), (1, 68)], 2, 8, [.int 2147483647 0, .int 4294967295 0], true, true⟩)) (.nd 74 (.lf 73 ⟨.struct [(0, 66), (0, 72)], 2, 8, [.int 2147483647 0, .int 4294967295 0], true, false⟩) (.lf 74 ⟨.struct [(0, 66), (0, 72)], 2, 8, [.int 2147483647 0, .int 4294967295 0], true, false⟩))) (.nd 77 (.nd 76 (.lf 75 ⟨.struct [(0, 66), (0, 70), (1, 74)], 3, 12, [.int 4294967295 0, .int 2147483647 0, .int 4294967295 0], true, false⟩) (.lf 76 ⟨.struct [(0, 66), (0, 70), (1, 74)], 3, 12, [.int 4294967295 0, .int 2147483647 0, .int 4294967295 0], true, false⟩)) (.nd 78 (.lf 77 ⟨.pointer 163, 1, 8, [.nil], false, false⟩) (.lf 78 ⟨.pointer 122, 1, 8, [.nil], false, false⟩)))) (.nd 83 (.nd 81 (.nd 80 (.lf 79 ⟨.struct [], 0, 0, [], true, true⟩) (.lf 80 ⟨.struct [(0, 67), (0, 79), (0, 2)], 1, 8, [.int 9223372036854775807 0], true, false⟩)) (.nd 82 (.lf 81 ⟨.struct [(0, 67), (0, 79), (0, 2)], 1, 8, [.int 9223372036854775807 0], true, false⟩) (.lf 82 ⟨.struct [(0, 67), (0, 21)], 1, 4, [.int 2147483647 0], true, false⟩))) (.nd 85 (.nd 84 (.lf 83 ⟨.struct [(0, 67), (0, 21)], 1, 4, [.int 2147483647 0], true, false⟩) (.lf 84 ⟨.struct [(0, 67), (0, 79), (0, 40)], 1, 8, [.int 18446744073709551615 0], true, false⟩)) (.nd 86 (.lf 85 ⟨.struct [(0, 67), (0, 79), (0, 40)], 1, 8, [.int 18446744073709551615 0], true, false⟩) (.lf 86 ⟨.struct [(0, 85), (1, 85), (2, 85), (3, 85), (4, 85)], 5, 40, [.int 18446744073709551615 0, .int 18446744073709551615 0, .int 18446744073709551615 0, .int 18446744073709551615 0, .int 18446744073709551615 0], true, false⟩))))) (.nd 95 (.nd 91 (.nd 89 (.nd 88 (.lf 87 ⟨.struct [(0, 85), (1, 85), (2, 85), (3, 85), (4, 85)], 5, 40, [.int 18446744073709551615 0, .int 18446744073709551615 0, .int 18446744073709551615 0, .int 18446744073709551615 0, .int 18446744073709551615 0], true, false⟩) (.lf 88 ⟨.struct [(0, 9), (1, 64), (3, 4), (4, 76), (7, 77), (8, 78), (9, 54), (12, 45), (14, 81), (15, 83), (16, 87)], 21, 192, [.str [], .nils, .nils, .bool false, .int 4294967295 0, .int 2147483647 0, .int 4294967295 0, .nil, .nil, .int 18446744073709551615 0, .int 9223372036854775807 0, .int 9223372036854775807 0, .int 9223372036854775807 0, .int 9223372036854775807 0, .int 9223372036854775807 0, .int 2147483647 0, .int 18446744073709551615 0, .int 18446744073709551615 0, .int 18446744073709551615 0, .int 18446744073709551615 0, .int 18446744073709551615 0], true, false⟩)) (.nd 90 (.lf 89 ⟨.struct [(0, 9), (1, 64), (3, 4), (4, 76), (7, 77), (8, 78), (9, 54), (12, 45), (14, 81), (15, 83), (16, 87)], 21, 192, [.str [], .nils, .nils, .bool false, .int 4294967295 0, .int 2147483647 0, .int 4294967295 0, .nil, .nil, .int 18446744073709551615 0, .int 9223372036854775807 0, .int 9223372036854775807 0, .int 9223372036854775807 0, .int 9223372036854775807 0, .int 9223372036854775807 0, .int 2147483647 0, .int 18446744073709551615 0, .int 18446744073709551615 0, .int 18446744073709551615 0, .int 18446744073709551615 0, .int 18446744073709551615 0], true, false⟩) (.lf 90 ⟨.map 9 35, 1, 8, [.nilm], false, false⟩))) (.nd 93 (.nd 92 (.lf 91 ⟨.struct [(0, 90), (1, 22)], 2, 32, [.nilm, .nils], true, false⟩) (.lf 92 ⟨.struct [(0, 90), (1, 22)], 2, 32, [.nilm, .nils], true, false⟩)) (.nd 94 (.lf 93 ⟨.func, 1, 8, [.nilf], false, false⟩) (.lf 94 ⟨.func, 1, 8, [.nilf], false, false⟩)))) (.nd 99 (.nd 97 (.nd 96 (.lf 95 ⟨.func, 1, 8, [.nilf], false, false⟩) (.lf 96 ⟨.func, 1, 8, [.nilf], false, false⟩)) (.nd 98 (.lf 97 ⟨.func, 1, 8, [.nilf], false, false⟩) (.lf 98 ⟨.func, 1, 8, [.nilf], false, false⟩))) (.nd 101 (.nd 100 (.lf 99 ⟨.func, 1, 8, [.nilf], false, false⟩) (.lf 100 ⟨.func, 1, 8, [.nilf], false, false⟩)) (.nd 102 (.lf 101 ⟨.func, 1, 8, [.nilf], false, false⟩) (.nd 103 (.lf 102 ⟨.func, 1, 8, [.nilf], false, false⟩) (.lf 103 ⟨.pointer 87, 1, 8, [.nil], false, false⟩))))))) (.nd 121 (.nd 112 (.nd 108 (.nd 106 (.nd 105 (.lf 104 ⟨.func, 1, 8, [.nilf], false, false⟩) (.lf 105 ⟨.func, 1, 8, [.nilf], false, false⟩)) (.nd 107 (.lf 106 ⟨.pointer 81, 1, 8, [.nil], false, false⟩) (.lf 107 ⟨.func, 1, 8, [.nilf], false, false⟩))) (.nd 110 (.nd 109 (.lf 108 ⟨.pointer 2, 1, 8, [.nil], false, false⟩) (.lf 109 ⟨.pointer 83, 1, 8, [.nil], false, false⟩)) (.nd 111 (.lf 110 ⟨.func, 1, 8, [.nilf], false, false⟩) (.lf 111 ⟨.pointer 21, 1, 8, [.nil], false, false⟩)))) (.nd 117 (.nd 114 (.nd 113 (.lf 112 ⟨.func, 1, 8, [.nilf], false, false⟩) (.lf 113 ⟨.func, 1, 8, [.nilf], false, false⟩)) (.nd 116 (.lf 114 ⟨.func, 1, 8, [.nilf], false, false⟩) (.lf 116 ⟨.func, 1, 8, [.nilf], false, false⟩))) (.nd 119 (.nd 118 (.lf 117 ⟨.func, 1, 8, [.nilf], false, false⟩) (.lf 118 ⟨.func, 1, 8, [.nilf], false, false⟩)) (.nd 120 (.lf 119 ⟨.pointer 182, 1, 8, [.nil], false, false⟩) (.lf 120 ⟨.pointer 167, 1, 8, [.nil], false, false⟩))))) (.nd 129 (.nd 125 (.nd 123 (.nd 122 (.lf 121 ⟨.struct [(0, 119), (1, 64), (3, 120)], 4, 64, [.nil, .nils, .nils, .nil], true, false⟩) (.lf 122 ⟨.struct [(0, 119), (1, 64), (3, 120)], 4, 64, [.nil, .nils, .nils, .nil], true, false⟩)) (.nd 124 (.lf 123 ⟨.pointer 127, 1, 8, [.nil], false, false⟩) (.lf 124 ⟨.pointer 185, 1, 8, [.nil], false, false⟩))) (.nd 127 (.nd 126 (.lf 125 ⟨.func, 1, 8, [.nilf], false, false⟩) (.lf 126 ⟨.struct [(0, 78), (1, 124), (2, 3), (3, 45)], 5, 40, [.nil, .nil, .int 9223372036854775807 0, .int 9223372036854775807 0, .int 9223372036854775807 0], true, false⟩)) (.nd 128 (.lf 127 ⟨.struct [(0, 78), (1, 124), (2, 3), (3, 45)], 5, 40, [.nil, .nil, .int 9223372036854775807 0, .int 9223372036854775807 0, .int 9223372036854775807 0], true, false⟩) (.lf 128 ⟨.func, 1, 8, [.nilf], false, false⟩)))) (.nd 133 (.nd 131 (.nd 130 (.lf 129 ⟨.func, 1, 8, [.nilf], false, false⟩) (.lf 130 ⟨.func, 1, 8, [.nilf], false, false⟩)) (.nd 132 (.lf 131 ⟨.func, 1, 8, [.nilf], false, false⟩) (.lf 132 ⟨.func, 1, 8, [.nilf], false, false⟩))) (.nd 135 (.nd 134 (.lf 133 ⟨.func, 1, 8, [.nilf], false, false⟩) (.lf 134 ⟨.pointer 139, 1, 8, [.nil], false, false⟩)) (.nd 136 (.lf 135 ⟨.pointer 137, 1, 8, [.nil], false, false⟩) (.nd 137 (.lf 136 ⟨.struct [(0, 135), (1, 27)], 2, 32, [.nil, .nils], true, false⟩) (.lf 137 ⟨.struct [(0, 135), (1, 27)], 2, 32, [.nil, .nils], true, false⟩))))))))) (.nd 210 (.nd 174 (.nd 157 (.nd 146 (.nd 142 (.nd 140 (.nd 139 (.lf 138 ⟨.struct [(0, 137), (2, 64)], 4, 80, [.nil, .nils, .nils, .nils], true, false⟩) (.lf 139 ⟨.struct [(0, 137), (2, 64)], 4, 80, [.nil, .nils, .nils, .nils], true, false⟩)) (.nd 141 (.lf 140 ⟨.struct [(0, 9), (1, 3)], 2, 24, [.str [], .int 9223372036854775807 0], true, true⟩) (.lf 141 ⟨.struct [(0, 9), (1, 3)], 2, 24, [.str [], .int 9223372036854775807 0], true, true⟩))) (.nd 144 (.nd 143 (.lf 142 ⟨.func, 1, 8, [.nilf], false, false⟩) (.lf 143 ⟨.func, 1, 8, [.nilf], false, false⟩)) (.nd 145 (.lf 144 ⟨.pointer 85, 1, 8, [.nil], false, false⟩) (.lf 145 ⟨.func, 1, 8, [.nilf], false, false⟩)))) (.nd 151 (.nd 148 (.nd 147 (.lf 146 ⟨.pointer 40, 1, 8, [.nil], false, false⟩) (.lf 147 ⟨.func, 1, 8, [.nilf], false, false⟩)) (.nd 149 (.lf 148 ⟨.pointer 76, 1, 8, [.nil], false, false⟩) (.lf 149 ⟨.func, 1, 8, [.nilf], false, false⟩))) (.nd 155 (.nd 153 (.lf 151 ⟨.func, 1, 8, [.nilf], false, false⟩) (.lf 153 ⟨.func, 1, 8, [.nilf], false, false⟩)) (.nd 156 (.lf 155 ⟨.func, 1, 8, [.nilf], false, false⟩) (.lf 156 ⟨.func, 1, 8, [.nilf], false, false⟩))))) (.nd 165 (.nd 161 (.nd 159 (.nd 158 (.lf 157 ⟨.slice 253, 1, 24, [.nils], false, false⟩) (.lf 158 ⟨.struct [(0, 157), (1, 3), (2, 3), (3, 3)], 4, 48, [.nils, .int 9223372036854775807 0, .int 9223372036854775807 0, .int 9223372036854775807 0], true, false⟩)) (.nd 160 (.lf 159 ⟨.struct [(0, 157), (1, 3), (2, 3), (3, 3)], 4, 48, [.nils, .int 9223372036854775807 0, .int 9223372036854775807 0, .int 9223372036854775807 0], true, false⟩) (.lf 160 ⟨.slice 271, 1, 24, [.nils], false, false⟩))) (.nd 163 (.nd 162 (.lf 161 ⟨.map 3 3, 1, 8, [.nilm], false, false⟩) (.lf 162 ⟨.struct [(0, 159), (4, 160), (5, 161)], 6, 80, [.nils, .int 9223372036854775807 0, .int 9223372036854775807 0, .int 9223372036854775807 0, .nils, .nilm], true, false⟩)) (.nd 164 (.lf 163 ⟨.struct [(0, 159), (4, 160), (5, 161)], 6, 80, [.nils, .int 9223372036854775807 0, .int 9223372036854775807 0, .int 9223372036854775807 0, .nils, .nilm], true, false⟩) (.lf 164 ⟨.pointer 171, 1, 8, [.nil], false, false⟩)))) (.nd 169 (.nd 167 (.nd 166 (.lf 165 ⟨.array 256 68, 256, 1024, frep 256 (.int 4294967295 0), true, true⟩) (.lf 166 ⟨.struct [(0, 76), (3, 165), (259, 83), (260, 85)], 261, 1048, [.int 4294967295 0, .int 2147483647 0, .int 4294967295 0, .int 4294967295 0, .int 4294967295 0, .int 4294967295 0, .int 4294967295 0, .int 4294967295 0, .int 4294967295 0, .int 4294967295 0, .int 4294967295 0, .int 4294967295 0, .int 4294967295 0, .int 4294967295 0, .int 4294967295 0, .int 4294967295 0, .int 4294967295 0, .int 4294967295 0, .int 4294967295 0, .int 4294967295 0, .int 4294967295 0, .int 4294967295 0, .int 4294967295 0, .int 4294967295 0, .int 4294967295 0, .int 4294967295 0, .int 4294967295 0, .int 4294967295 0, .int 4294967295 0, .int 4294967295 0, .int 4294967295 0, .int 4294967295 0, .int 4294967295 0, .int 4294967295 0, .int 4294967295 0, .int 4294967295 0, .int 4294967295 0, .int 4294967295 0, .int 4294967295 0, .int 4294967295 0, .int 4294967295 0, .int 4294967295 0, .int 4294967295 0, .int 4294967295 0, .int 4294967295 0, .int 4294967295 0, .int 4294967295 0, .int 4294967295 0, .int 4294967295 0, .int 4294967295 0, .int 4294967295 0, .int 4294967295 0, .int 4294967295 0, .int 4294967295 0, .int 4294967295 0, .int 4294967295 0, .int 4294967295 0, .int 4294967295 0, .int 4294967295 0, .int 4294967295 0, .int 4294967295 0, .int 4294967295 0, .int 4294967295 0, .int 4294967295 0, .int 4294967295 0, .int 4294967295 0, .int 4294967295 0, .int 4294967295 0, .int 4294967295 0, .int 4294967295 0, .int 4294967295 0, .int 4294967295 0, .int 4294967295 0, .int 4294967295 0, .int 4294967295 0, .int 4294967295 0, .int 4294967295 0, .int 4294967295 0, .int 4294967295 0, .int 4294967295 0, .int 4294967295 0, .int 4294967295 0, .int 4294967295 0, .int 4294967295 0, .int 4294967295 0, .int 4294967295 0, .int 4294967295 0, .int 4294967295 0, .int 4294967295 0, .int 4294967295 0, .int 4294967295 0, .int 4294967295 0, .int 4294967295 0, .int 4294967295 0, .int 4294967295 0, .int 4294967295 0, .int 4294967295 0, .int 4294967295 0, .int 4294967295 0, .int 4294967295 0, .int 4294967295 0, .int 4294967295 0, .int 4294967295 0, .int 4294967295 0, .int 4294967295 0, .int 4294967295 0, .int 4294967295 0, .int 4294967295 0, .int 4294967295 0, .int 4294967295 0, .int 4294967295 0, .int 4294967295 0, .int 4294967295 0, .int 4294967295 0, .int 4294967295 0, .int 4294967295 0, .int 4294967295 0, .int 4294967295 0, .int 4294967295 0, .int 4294967295 0, .int 4294967295 0, .int 4294967295 0, .int 4294967295 0, .int 4294967295 0, .int 4294967295 0, .int 4294967295 0, .int 4294967295 0, .int 4294967295 0, .int 4294967295 0, .int 4294967295 0, .int 4294967295 0, .int 4294967295 0, .int 4294967295 0, .int 4294967295 0, .int 4294967295 0, .int 4294967295 0, .int 4294967295 0, .int 4294967295 0, .int 4294967295 0, .int 4294967295 0, .int 4294967295 0, .int 4294967295 0, .int 4294967295 0, .int 4294967295 0, .int 4294967295 0, .int 4294967295 0, .int 4294967295 0, .int 4294967295 0, .int 4294967295 0, .int 4294967295 0, .int 4294967295 0, .int 4294967295 0, .int 4294967295 0, .int 4294967295 0, .int 4294967295 0, .int 4294967295 0, .int 4294967295 0, .int 4294967295 0, .int 4294967295 0, .int 4294967295 0, .int 4294967295 0, .int 4294967295 0, .int 4294967295 0, .int 4294967295 0, .int 4294967295 0, .int 4294967295 0, .int 4294967295 0, .int 4294967295 0, .int 4294967295 0, .int 4294967295 0, .int 4294967295 0, .int 4294967295 0, .int 4294967295 0, .int 4294967295 0, .int 4294967295 0, .int 4294967295 0, .int 4294967295 0, .int 4294967295 0, .int 4294967295 0, .int 4294967295 0, .int 4294967295 0, .int 4294967295 0, .int 4294967295 0, .int 4294967295 0, .int 4294967295 0, .int 4294967295 0, .int 4294967295 0, .int 4294967295 0, .int 4294967295 0, .int 4294967295 0, .int 4294967295 0, .int 4294967295 0, .int 4294967295 0, .int 4294967295 0, .int 4294967295 0, .int 4294967295 0, .int 4294967295 0, .int 4294967295 0, .int 4294967295 0, .int 4294967295 0, .int 4294967295 0, .int 4294967295 0, .int 4294967295 0, .int 4294967295 0, .int 4294967295 0, .int 4294967295 0, .int 4294967295 0, .int 4294967295 0, .int 4294967295 0, .int 4294967295 0, .int 4294967295 0, .int 4294967295 0, .int 4294967295 0, .int 4294967295 0, .int 4294967295 0, .int 4294967295 0, .int 4294967295 0, .int 4294967295 0, .int 4294967295 0, .int 4294967295 0, .int 4294967295 0, .int 4294967295 0, .int 4294967295 0, .int 4294967295 0, .int 4294967295 0, .int 4294967295 0, .int 4294967295 0, .int 4294967295 0, .int 4294967295 0, .int 4294967295 0, .int 4294967295 0, .int 4294967295 0, .int 4294967295 0, .int 4294967295 0, .int 4294967295 0, .int 4294967295 0, .int 4294967295 0, .int 4294967295 0, .int 4294967295 0, .int 4294967295 0, .int 4294967295 0, .int 4294967295 0, .int 4294967295 0, .int 4294967295 0, .int 4294967295 0, .int 4294967295 0, .int 4294967295 0, .int 4294967295 0, .int 4294967295 0, .int 4294967295 0, .int 4294967295 0, .int 4294967295 0, .int 4294967295 0, .int 4294967295 0, .int 4294967295 0, .int 4294967295 0, .int 4294967295 0, .int 4294967295 0, .int 4294967295 0, .int 2147483647 0, .int 18446744073709551615 0], true, false⟩)) (.nd 168 (.lf 167 ⟨.struct [(0, 76), (3, 165), (259, 83), (260, 85)], 261, 1048, [.int 4294967295 0, .int 2147483647 0, .int 4294967295 0, .int 4294967295 0, .int 4294967295 0, .int 4294967295 0, .int 4294967295 0, .int 4294967295 0, .int 4294967295 0, .int 4294967295 0, .int 4294967295 0, .int 4294967295 0, .int 4294967295 0, .int 4294967295 0, .int 4294967295 0, .int 4294967295 0, .int 4294967295 0, .int 4294967295 0, .int 4294967295 0, .int 4294967295 0, .int 4294967295 0, .int 4294967295 0, .int 4294967295 0, .int 4294967295 0, .int 4294967295 0, .int 4294967295 0, .int 4294967295 0, .int 4294967295 0, .int 4294967295 0, .int 4294967295 0, .int 4294967295 0, .int 4294967295 0, .int 4294967295 0, .int 4294967295 0, .int 4294967295 0, .int 4294967295 0, .int 4294967295 0, .int 4294967295 0, .int 4294967295 0, .int 4294967295 0, .int 4294967295 0, .int 4294967295 0, .int 4294967295 0, .int 4294967295 0, .int 4294967295 0, .int 4294967295 0, .int 4294967295 0, .int 4294967295 0, .int 4294967295 0, .int 4294967295 0, .int 4294967295 0, .int 4294967295 0, .int 4294967295 0, .int 4294967295 0, .int 4294967295 0, .int 4294967295 0, .int 4294967295 0, .int 4294967295 0, .int 4294967295 0, .int 4294967295 0, .int 4294967295 0, .int 4294967295 0, .int 4294967295 0, .int 4294967295 0, .int 4294967295 0, .int 4294967295 0, .int 4294967295 0, .int 4294967295 0, .int 4294967295 0, .int 4294967295 0, .int 4294967295 0, .int 4294967295 0, .int 4294967295 0, .int 4294967295 0, .int 4294967295 0, .int 4294967295 0, .int 4294967295 0, .int 4294967295 0, .int 4294967295 0, .int 4294967295 0, .int 4294967295 0, .int 4294967295 0, .int 4294967295 0, .int 4294967295 0, .int 4294967295 0, .int 4294967295 0, .int 4294967295 0, .int 4294967295 0, .int 4294967295 0, .int 4294967295 0, .int 4294967295 0, .int 4294967295 0, .int 4294967295 0, .int 4294967295 0, .int 4294967295 0, .int 4294967295 0, .int 4294967295 0, .int 4294967295 0, .int 4294967295 0, .int 4294967295 0, .int 4294967295 0, .int 4294967295 0, .int 4294967295 0, .int 4294967295 0, .int 4294967295 0, .int 4294967295 0, .int 4294967295 0, .int 4294967295 0, .int 4294967295 0, .int 4294967295 0, .int 4294967295 0, .int 4294967295 0, .int 4294967295 0, .int 4294967295 0, .int 4294967295 0, .int 4294967295 0, .int 4294967295 0, .int 4294967295 0, .int 4294967295 0, .int 4294967295 0, .int 4294967295 0, .int 4294967295 0, .int 4294967295 0, .int 4294967295 0, .int 4294967295 0, .int 4294967295 0, .int 4294967295 0, .int 4294967295 0, .int 4294967295 0, .int 4294967295 0, .int 4294967295 0, .int 4294967295 0, .int 4294967295 0, .int 4294967295 0, .int 4294967295 0, .int 4294967295 0, .int 4294967295 0, .int 4294967295 0, .int 4294967295 0, .int 4294967295 0, .int 4294967295 0, .int 4294967295 0, .int 4294967295 0, .int 4294967295 0, .int 4294967295 0, .int 4294967295 0, .int 4294967295 0, .int 4294967295 0, .int 4294967295 0, .int 4294967295 0, .int 4294967295 0, .int 4294967295 0, .int 4294967295 0, .int 4294967295 0, .int 4294967295 0, .int 4294967295 0, .int 4294967295 0, .int 4294967295 0, .int 4294967295 0, .int 4294967295 0, .int 4294967295 0, .int 4294967295 0, .int 4294967295 0, .int 4294967295 0, .int 4294967295 0, .int 4294967295 0, .int 4294967295 0, .int 4294967295 0, .int 4294967295 0, .int 4294967295 0, .int 4294967295 0, .int 4294967295 0, .int 4294967295 0, .int 4294967295 0, .int 4294967295 0, .int 4294967295 0, .int 4294967295 0, .int 4294967295 0, .int 4294967295 0, .int 4294967295 0, .int 4294967295 0, .int 4294967295 0, .int 4294967295 0, .int 4294967295 0, .int 4294967295 0, .int 4294967295 0, .int 4294967295 0, .int 4294967295 0, .int 4294967295 0, .int 4294967295 0, .int 4294967295 0, .int 4294967295 0, .int 4294967295 0, .int 4294967295 0, .int 4294967295 0, .int 4294967295 0, .int 4294967295 0, .int 4294967295 0, .int 4294967295 0, .int 4294967295 0, .int 4294967295 0, .int 4294967295 0, .int 4294967295 0, .int 4294967295 0, .int 4294967295 0, .int 4294967295 0, .int 4294967295 0, .int 4294967295 0, .int 4294967295 0, .int 4294967295 0, .int 4294967295 0, .int 4294967295 0, .int 4294967295 0, .int 4294967295 0, .int 4294967295 0, .int 4294967295 0, .int 4294967295 0, .int 4294967295 0, .int 4294967295 0, .int 4294967295 0, .int 4294967295 0, .int 4294967295 0, .int 4294967295 0, .int 4294967295 0, .int 4294967295 0, .int 4294967295 0, .int 4294967295 0, .int 4294967295 0, .int 4294967295 0, .int 4294967295 0, .int 4294967295 0, .int 4294967295 0, .int 4294967295 0, .int 4294967295 0, .int 4294967295 0, .int 4294967295 0, .int 4294967295 0, .int 4294967295 0, .int 4294967295 0, .int 4294967295 0, .int 4294967295 0, .int 4294967295 0, .int 4294967295 0, .int 4294967295 0, .int 4294967295 0, .int 4294967295 0, .int 4294967295 0, .int 4294967295 0, .int 4294967295 0, .int 4294967295 0, .int 4294967295 0, .int 4294967295 0, .int 4294967295 0, .int 4294967295 0, .int 4294967295 0, .int 4294967295 0, .int 4294967295 0, .int 4294967295 0, .int 4294967295 0, .int 2147483647 0, .int 18446744073709551615 0], true, false⟩) (.lf 168 ⟨.slice 40, 1, 24, [.nils], false, false⟩))) (.nd 171 (.nd 170 (.lf 169 ⟨.slice 275, 1, 24, [.nils], false, false⟩) (.lf 170 ⟨.struct [(0, 159), (4, 160), (5, 120), (6, 27), (7, 49), (10, 3), (11, 3), (12, 3), (13, 3), (14, 168), (15, 169), (16, 41), (17, 23), (18, 168), (19, 23), (20, 45)], 22, 320, [.nils, .int 9223372036854775807 0, .int 9223372036854775807 0, .int 9223372036854775807 0, .nils, .nil, .nils, .int 9223372036854775807 0, .int 9223372036854775807 0, .int 9223372036854775807 0, .int 9223372036854775807 0, .int 9223372036854775807 0, .int 9223372036854775807 0, .int 9223372036854775807 0, .nils, .nils, .nils, .nils, .nils, .nils, .int 9223372036854775807 0, .int 9223372036854775807 0], true, false⟩)) (.nd 172 (.lf 171 ⟨.struct [(0, 159), (4, 160), (5, 120), (6, 27), (7, 49), (10, 3), (11, 3), (12, 3), (13, 3), (14, 168), (15, 169), (16, 41), (17, 23), (18, 168), (19, 23), (20, 45)], 22, 320, [.nils, .int 9223372036854775807 0, .int 9223372036854775807 0, .int 9223372036854775807 0, .nils, .nil, .nils, .int 9223372036854775807 0, .int 9223372036854775807 0, .int 9223372036854775807 0, .int 9223372036854775807 0, .int 9223372036854775807 0, .int 9223372036854775807 0, .int 9223372036854775807 0, .nils, .nils, .nils, .nils, .nils, .nils, .int 9223372036854775807 0, .int 9223372036854775807 0], true, false⟩) (.nd 173 (.lf 172 ⟨.func, 1, 8, [.nilf], false, false⟩) (.lf 173 ⟨.func, 1, 8, [.nilf], false, false⟩))))))) (.nd 191 (.nd 183 (.nd 179 (.nd 176 (.nd 175 (.lf 174 ⟨.func, 1, 8, [.nilf], false, false⟩) (.lf 175 ⟨.pointer 177, 1, 8, [.nil], false, false⟩)) (.nd 177 (.lf 176 ⟨.struct [(0, 119), (1, 3), (2, 45)], 4, 32, [.nil, .int 9223372036854775807 0, .int 9223372036854775807 0, .int 9223372036854775807 0], true, false⟩) (.lf 177 ⟨.struct [(0, 119), (1, 3), (2, 45)], 4, 32, [.nil, .int 9223372036854775807 0, .int 9223372036854775807 0, .int 9223372036854775807 0], true, false⟩))) (.nd 181 (.nd 180 (.lf 179 ⟨.func, 1, 8, [.nilf], false, false⟩) (.lf 180 ⟨.map 3 271, 1, 8, [.nilm], false, false⟩)) (.nd 182 (.lf 181 ⟨.struct [(0, 64), (2, 180)], 3, 56, [.nils, .nils, .nilm], true, false⟩) (.lf 182 ⟨.struct [(0, 64), (2, 180)], 3, 56, [.nils, .nils, .nilm], true, false⟩)))) (.nd 187 (.nd 185 (.nd 184 (.lf 183 ⟨.func, 1, 8, [.nilf], false, false⟩) (.lf 184 ⟨.struct [(0, 27), (1, 3)], 2, 32, [.nils, .int 9223372036854775807 0], true, false⟩)) (.nd 186 (.lf 185 ⟨.struct [(0, 27), (1, 3)], 2, 32, [.nils, .int 9223372036854775807 0], true, false⟩) (.lf 186 ⟨.slice 298, 1, 24, [.nils], false, false⟩))) (.nd 189 (.nd 188 (.lf 187 ⟨.func, 1, 8, [.nilf], false, false⟩) (.lf 188 ⟨.struct [(0, 9), (1, 40), (2, 40)], 3, 32, [.str [], .int 18446744073709551615 0, .int 18446744073709551615 0], true, true⟩)) (.nd 190 (.lf 189 ⟨.struct [(0, 9), (1, 40), (2, 40)], 3, 32, [.str [], .int 18446744073709551615 0, .int 18446744073709551615 0], true, true⟩) (.lf 190 ⟨.slice 4, 1, 24, [.nils], false, false⟩))))) (.nd 200 (.nd 196 (.nd 193 (.nd 192 (.lf 191 ⟨.slice 293, 1, 24, [.nils], false, false⟩) (.lf 192 ⟨.slice 300, 1, 24, [.nils], false, false⟩)) (.nd 194 (.lf 193 ⟨.struct [(0, 3), (1, 3), (2, 4), (3, 4), (4, 4), (5, 40), (6, 40), (7, 9), (8, 189), (11, 23), (12, 190), (13, 191), (14, 9), (15, 40), (16, 192), (17, 3)], 18, 216, [.int 9223372036854775807 0, .int 9223372036854775807 0, .bool false, .bool false, .bool false, .int 18446744073709551615 0, .int 18446744073709551615 0, .str [], .str [], .int 18446744073709551615 0, .int 18446744073709551615 0, .nils, .nils, .nils, .str [], .int 18446744073709551615 0, .nils, .int 9223372036854775807 0], true, false⟩) (.lf 194 ⟨.struct [(0, 3), (1, 3), (2, 4), (3, 4), (4, 4), (5, 40), (6, 40), (7, 9), (8, 189), (11, 23), (12, 190), (13, 191), (14, 9), (15, 40), (16, 192), (17, 3)], 18, 216, [.int 9223372036854775807 0, .int 9223372036854775807 0, .bool false, .bool false, .bool false, .int 18446744073709551615 0, .int 18446744073709551615 0, .str [], .str [], .int 18446744073709551615 0, .int 18446744073709551615 0, .nils, .nils, .nils, .str [], .int 18446744073709551615 0, .nils, .int 9223372036854775807 0], true, false⟩))) (.nd 198 (.nd 197 (.lf 196 ⟨.func, 1, 8, [.nilf], false, false⟩) (.lf 197 ⟨.func, 1, 8, [.nilf], false, false⟩)) (.nd 199 (.lf 198 ⟨.func, 1, 8, [.nilf], false, false⟩) (.lf 199 ⟨.func, 1, 8, [.nilf], false, false⟩)))) (.nd 204 (.nd 202 (.nd 201 (.lf 200 ⟨.func, 1, 8, [.nilf], false, false⟩) (.lf 201 ⟨.func, 1, 8, [.nilf], false, false⟩)) (.nd 203 (.lf 202 ⟨.func, 1, 8, [.nilf], false, false⟩) (.lf 203 ⟨.func, 1, 8, [.nilf], false, false⟩))) (.nd 206 (.nd 205 (.lf 204 ⟨.func, 1, 8, [.nilf], false, false⟩) (.lf 205 ⟨.func, 1, 8, [.nilf], false, false⟩)) (.nd 207 (.lf 206 ⟨.iface, 1, 16, [.nili], false, false⟩) (.nd 209 (.lf 207 ⟨.iface, 1, 16, [.nili], false, false⟩) (.lf 209 ⟨.func, 1, 8, [.nilf], false, false⟩)))))))) (.nd 248 (.nd 227 (.nd 218 (.nd 214 (.nd 212 (.nd 211 (.lf 210 ⟨.func, 1, 8, [.nilf], false, false⟩) (.lf 211 ⟨.func, 1, 8, [.nilf], false, false⟩)) (.nd 213 (.lf 212 ⟨.func, 1, 8, [.nilf], false, false⟩) (.lf 213 ⟨.pointer 5, 1, 8, [.nil], false, false⟩))) (.nd 216 (.nd 215 (.lf 214 ⟨.pointer 70, 1, 8, [.nil], false, false⟩) (.lf 215 ⟨.func, 1, 8, [.nilf], false, false⟩)) (.nd 217 (.lf 216 ⟨.pointer 68, 1, 8, [.nil], false, false⟩) (.lf 217 ⟨.func, 1, 8, [.nilf], false, false⟩)))) (.nd 223 (.nd 221 (.nd 220 (.lf 218 ⟨.slice 227, 1, 24, [.nils], false, false⟩) (.lf 220 ⟨.func, 1, 8, [.nilf], false, false⟩)) (.nd 222 (.lf 221 ⟨.pointer 225, 1, 8, [.nil], false, false⟩) (.lf 222 ⟨.struct [(0, 64)], 2, 48, [.nils, .nils], true, false⟩))) (.nd 225 (.nd 224 (.lf 223 ⟨.struct [(0, 64)], 2, 48, [.nils, .nils], true, false⟩) (.lf 224 ⟨.struct [(0, 218), (1, 3), (2, 223), (4, 45)], 6, 96, [.nils, .int 9223372036854775807 0, .nils, .nils, .int 9223372036854775807 0, .int 9223372036854775807 0], true, false⟩)) (.nd 226 (.lf 225 ⟨.struct [(0, 218), (1, 3), (2, 223), (4, 45)], 6, 96, [.nils, .int 9223372036854775807 0, .nils, .nils, .int 9223372036854775807 0, .int 9223372036854775807 0], true, false⟩) (.lf 226 ⟨.struct [(0, 3), (1, 3), (2, 9)], 3, 32, [.int 9223372036854775807 0, .int 9223372036854775807 0, .str []], true, true⟩))))) (.nd 239 (.nd 233 (.nd 230 (.nd 228 (.lf 227 ⟨.struct [(0, 3), (1, 3), (2, 9)], 3, 32, [.int 9223372036854775807 0, .int 9223372036854775807 0, .str []], true, true⟩) (.lf 228 ⟨.func, 1, 8, [.nilf], false, false⟩)) (.nd 231 (.lf 230 ⟨.func, 1, 8, [.nilf], false, false⟩) (.lf 231 ⟨.slice 385, 1, 24, [.nils], false, false⟩))) (.nd 236 (.nd 235 (.lf 233 ⟨.func, 1, 8, [.nilf], false, false⟩) (.lf 235 ⟨.func, 1, 8, [.nilf], false, false⟩)) (.nd 238 (.lf 236 ⟨.slice 248, 1, 24, [.nils], false, false⟩) (.lf 238 ⟨.func, 1, 8, [.nilf], false, false⟩)))) (.nd 243 (.nd 241 (.nd 240 (.lf 239 ⟨.pointer 246, 1, 8, [.nil], false, false⟩) (.lf 240 ⟨.map 3 248, 1, 8, [.nilm], false, false⟩)) (.nd 242 (.lf 241 ⟨.map 9 3, 1, 8, [.nilm], false, false⟩) (.lf 242 ⟨.map 3 9, 1, 8, [.nilm], false, false⟩))) (.nd 245 (.nd 244 (.lf 243 ⟨.struct [(0, 159), (4, 4)], 5, 56, [.nils, .int 9223372036854775807 0, .int 9223372036854775807 0, .int 9223372036854775807 0, .bool false], true, false⟩) (.lf 244 ⟨.struct [(0, 159), (4, 4)], 5, 56, [.nils, .int 9223372036854775807 0, .int 9223372036854775807 0, .int 9223372036854775807 0, .bool false], true, false⟩)) (.nd 246 (.lf 245 ⟨.struct [(0, 244), (5, 64), (7, 231), (8, 180), (9, 160), (10, 161), (11, 240), (12, 241), (13, 242)], 14, 192, [.nils, .int 9223372036854775807 0, .int 9223372036854775807 0, .int 9223372036854775807 0, .bool false, .nils, .nils, .nils, .nilm, .nils, .nilm, .nilm, .nilm, .nilm], true, false⟩) (.nd 247 (.lf 246 ⟨.struct [(0, 244), (5, 64), (7, 231), (8, 180), (9, 160), (10, 161), (11, 240), (12, 241), (13, 242)], 14, 192, [.nils, .int 9223372036854775807 0, .int 9223372036854775807 0, .int 9223372036854775807 0, .bool false, .nils, .nils, .nils, .nilm, .nils, .nilm, .nilm, .nilm, .nilm], true, false⟩) (.lf 247 ⟨.struct [(0, 3), (1, 3), (2, 3)], 3, 24, [.int 9223372036854775807 0, .int 9223372036854775807 0, .int 9223372036854775807 0], true, true⟩))))))) (.nd 266 (.nd 258 (.nd 252 (.nd 250 (.nd 249 (.lf 248 ⟨.struct [(0, 3), (1, 3), (2, 3)], 3, 24, [.int 9223372036854775807 0, .int 9223372036854775807 0, .int 9223372036854775807 0], true, true⟩) (.lf 249 ⟨.func, 1, 8, [.nilf], false, false⟩)) (.nd 251 (.lf 250 ⟨.slice 390, 1, 24, [.nils], false, false⟩) (.lf 251 ⟨.array 256 5, 256, 256, frep 256 (.int 255 0), true, true⟩))) (.nd 254 (.nd 253 (.lf 252 ⟨.struct [(0, 3), (1, 3), (2, 3), (3, 4), (4, 40), (5, 40), (6, 40), (7, 40), (8, 250), (9, 251)], 265, 344, [.int 9223372036854775807 0, .int 9223372036854775807 0, .int 9223372036854775807 0, .bool false, .int 18446744073709551615 0, .int 18446744073709551615 0, .int 18446744073709551615 0, .int 18446744073709551615 0, .nils, .int 255 0, .int 255 0, .int 255 0, .int 255 0, .int 255 0, .int 255 0, .int 255 0, .int 255 0, .int 255 0, .int 255 0, .int 255 0, .int 255 0, .int 255 0, .int 255 0, .int 255 0, .int 255 0, .int 255 0, .int 255 0, .int 255 0, .int 255 0, .int 255 0, .int 255 0, .int 255 0, .int 255 0, .int 255 0, .int 255 0, .int 255 0, .int 255 0, .int 255 0, .int 255 0, .int 255 0, .int 255 0, .int 255 0, .int 255 0, .int 255 0, .int 255 0, .int 255 0, .int 255 0, .int 255 0, .int 255 0, .int 255 0, .int 255 0, .int 255 0, .int 255 0, .int 255 0, .int 255 0, .int 255 0, .int 255 0, .int 255 0, .int 255 0, .int 255 0, .int 255 0, .int 255 0, .int 255 0, .int 255 0, .int 255 0, .int 255 0, .int 255 0, .int 255 0, .int 255 0, .int 255 0, .int 255 0, .int 255 0, .int 255 0, .int 255 0, .int 255 0, .int 255 0, .int 255 0, .int 255 0, .int 255 0, .int 255 0, .int 255 0, .int 255 0, .int 255 0, .int 255 0, .int 255 0, .int 255 0, .int 255 0, .int 255 0, .int 255 0, .int 255 0, .int 255 0, .int 255 0, .int 255 0, .int 255 0, .int 255 0, .int 255 0, .int 255 0, .int 255 0, .int 255 0, .int 255 0, .int 255 0, .int 255 0, .int 255 0, .int 255 0, .int 255 0, .int 255 0, .int 255 0, .int 255 0, .int 255 0, .int 255 0, .int 255 0, .int 255 0, .int 255 0, .int 255 0, .int 255 0, .int 255 0, .int 255 0, .int 255 0, .int 255 0, .int 255 0, .int 255 0, .int 255 0, .int 255 0, .int 255 0, .int 255 0, .int 255 0, .int 255 0, .int 255 0, .int 255 0, .int 255 0, .int 255 0, .int 255 0, .int 255 0, .int 255 0, .int 255 0, .int 255 0, .int 255 0, .int 255 0, .int 255 0, .int 255 0, .int 255 0, .int 255 0, .int 255 0, .int 255 0, .int 255 0, .int 255 0, .int 255 0, .int 255 0, .int 255 0, .int 255 0, .int 255 0, .int 255 0, .int 255 0, .int 255 0, .int 255 0, .int 255 0, .int 255 0, .int 255 0, .int 255 0, .int 255 0, .int 255 0, .int 255 0, .int 255 0, .int 255 0, .int 255 0, .int 255 0, .int 255 0, .int 255 0, .int 255 0, .int 255 0, .int 255 0, .int 255 0, .int 255 0, .int 255 0, .int 255 0, .int 255 0, .int 255 0, .int 255 0, .int 255 0, .int 255 0, .int 255 0, .int 255 0, .int 255 0, .int 255 0, .int 255 0, .int 255 0, .int 255 0, .int 255 0, .int 255 0, .int 255 0, .int 255 0, .int 255 0, .int 255 0, .int 255 0, .int 255 0, .int 255 0, .int 255 0, .int 255 0, .int 255 0, .int 255 0, .int 255 0, .int 255 0, .int 255 0, .int 255 0, .int 255 0, .int 255 0, .int 255 0, .int 255 0, .int 255 0, .int 255 0, .int 255 0, .int 255 0, .int 255 0, .int 255 0, .int 255 0, .int 255 0, .int 255 0, .int 255 0, .int 255 0, .int 255 0, .int 255 0, .int 255 0, .int 255 0, .int 255 0, .int 255 0, .int 255 0, .int 255 0, .int 255 0, .int 255 0, .int 255 0, .int 255 0, .int 255 0, .int 255 0, .int 255 0, .int 255 0, .int 255 0, .int 255 0, .int 255 0, .int 255 0, .int 255 0, .int 255 0, .int 255 0, .int 255 0, .int 255 0, .int 255 0, .int 255 0, .int 255 0, .int 255 0, .int 255 0, .int 255 0, .int 255 0, .int 255 0, .int 255 0, .int 255 0, .int 255 0, .int 255 0, .int 255 0, .int 255 0, .int 255 0, .int 255 0, .int 255 0, .int 255 0, .int 255 0, .int 255 0, .int 255 0], true, false⟩) (.lf 253 ⟨.struct [(0, 3), (1, 3), (2, 3), (3, 4), (4, 40), (5, 40), (6, 40), (7, 40), (8, 250), (9, 251)], 265, 344, [.int 9223372036854775807 0, .int 9223372036854775807 0, .int 9223372036854775807 0, .bool false, .int 18446744073709551615 0, .int 18446744073709551615 0, .int 18446744073709551615 0, .int 18446744073709551615 0, .nils, .int 255 0, .int 255 0, .int 255 0, .int 255 0, .int 255 0, .int 255 0, .int 255 0, .int 255 0, .int 255 0, .int 255 0, .int 255 0, .int 255 0, .int 255 0, .int 255 0, .int 255 0, .int 255 0, .int 255 0, .int 255 0, .int 255 0, .int 255 0, .int 255 0, .int 255 0, .int 255 0, .int 255 0, .int 255 0, .int 255 0, .int 255 0, .int 255 0, .int 255 0, .int 255 0, .int 255 0, .int 255 0, .int 255 0, .int 255 0, .int 255 0, .int 255 0, .int 255 0, .int 255 0, .int 255 0, .int 255 0, .int 255 0, .int 255 0, .int 255 0, .int 255 0, .int 255 0, .int 255 0, .int 255 0, .int 255 0, .int 255 0, .int 255 0, .int 255 0, .int 255 0, .int 255 0, .int 255 0, .int 255 0, .int 255 0, .int 255 0, .int 255 0, .int 255 0, .int 255 0, .int 255 0, .int 255 0, .int 255 0, .int 255 0, .int 255 0, .int 255 0, .int 255 0, .int 255 0, .int 255 0, .int 255 0, .int 255 0, .int 255 0, .int 255 0, .int 255 0, .int 255 0, .int 255 0, .int 255 0, .int 255 0, .int 255 0, .int 255 0, .int 255 0, .int 255 0, .int 255 0, .int 255 0, .int 255 0, .int 255 0, .int 255 0, .int 255 0, .int 255 0, .int 255 0, .int 255 0, .int 255 0, .int 255 0, .int 255 0, .int 255 0, .int 255 0, .int 255 0, .int 255 0, .int 255 0, .int 255 0, .int 255 0, .int 255 0, .int 255 0, .int 255 0, .int 255 0, .int 255 0, .int 255 0, .int 255 0, .int 255 0, .int 255 0, .int 255 0, .int 255 0, .int 255 0, .int 255 0, .int 255 0, .int 255 0, .int 255 0, .int 255 0, .int 255 0, .int 255 0, .int 255 0, .int 255 0, .int 255 0, .int 255 0, .int 255 0, .int 255 0, .int 255 0, .int 255 0, .int 255 0, .int 255 0, .int 255 0, .int 255 0, .int 255 0, .int 255 0, .int 255 0, .int 255 0, .int 255 0, .int 255 0, .int 255 0, .int 255 0, .int 255 0, .int 255 0, .int 255 0, .int 255 0, .int 255 0, .int 255 0, .int 255 0, .int 255 0, .int 255 0, .int 255 0, .int 255 0, .int 255 0, .int 255 0, .int 255 0, .int 255 0, .int 255 0, .int 255 0, .int 255 0, .int 255 0, .int 255 0, .int 255 0, .int 255 0, .int 255 0, .int 255 0, .int 255 0, .int 255 0, .int 255 0, .int 255 0, .int 255 0, .int 255 0, .int 255 0, .int 255 0, .int 255 0, .int 255 0, .int 255 0, .int 255 0, .int 255 0, .int 255 0, .int 255 0, .int 255 0, .int 255 0, .int 255 0, .int 255 0, .int 255 0, .int 255 0, .int 255 0, .int 255 0, .int 255 0, .int 255 0, .int 255 0, .int 255 0, .int 255 0, .int 255 0, .int 255 0, .int 255 0, .int 255 0, .int 255 0, .int 255 0, .int 255 0, .int 255 0, .int 255 0, .int 255 0, .int 255 0, .int 255 0, .int 255 0, .int 255 0, .int 255 0, .int 255 0, .int 255 0, .int 255 0, .int 255 0, .int 255 0, .int 255 0, .int 255 0, .int 255 0, .int 255 0, .int 255 0, .int 255 0, .int 255 0, .int 255 0, .int 255 0, .int 255 0, .int 255 0, .int 255 0, .int 255 0, .int 255 0, .int 255 0, .int 255 0, .int 255 0, .int 255 0, .int 255 0, .int 255 0, .int 255 0, .int 255 0, .int 255 0, .int 255 0, .int 255 0, .int 255 0, .int 255 0, .int 255 0, .int 255 0, .int 255 0, .int 255 0, .int 255 0, .int 255 0, .int 255 0, .int 255 0, .int 255 0, .int 255 0, .int 255 0, .int 255 0, .int 255 0, .int 255 0, .int 255 0, .int 255 0, .int 255 0], true, false⟩)) (.nd 256 (.lf 254 ⟨.func, 1, 8, [.nilf], false, false⟩) (.lf 256 ⟨.func, 1, 8, [.nilf], false, false⟩)))) (.nd 262 (.nd 260 (.nd 259 (.lf 258 ⟨.func, 1, 8, [.nilf], false, false⟩) (.lf 259 ⟨.func, 1, 8, [.nilf], false, false⟩)) (.nd 261 (.lf 260 ⟨.func, 1, 8, [.nilf], false, false⟩) (.lf 261 ⟨.pointer 263, 1, 8, [.nil], false, false⟩))) (.nd 264 (.nd 263 (.lf 262 ⟨.struct [(0, 64), (2, 168)], 3, 72, [.nils, .nils, .nils], true, false⟩) (.lf 263 ⟨.struct [(0, 64), (2, 168)], 3, 72, [.nils, .nils, .nils], true, false⟩)) (.nd 265 (.lf 264 ⟨.slice 339, 1, 24, [.nils], false, false⟩) (.lf 265 ⟨.func, 1, 8, [.nilf], false, false⟩))))) (.nd 274 (.nd 270 (.nd 268 (.nd 267 (.lf 266 ⟨.func, 1, 8, [.nilf], false, false⟩) (.lf 267 ⟨.func, 1, 8, [.nilf], false, false⟩)) (.nd 269 (.lf 268 ⟨.func, 1, 8, [.nilf], false, false⟩) (.lf 269 ⟨.func, 1, 8, [.nilf], false, false⟩))) (.nd 272 (.nd 271 (.lf 270 ⟨.func, 1, 8, [.nilf], false, false⟩) (.lf 271 ⟨.pointer 404, 1, 8, [.nil], false, false⟩)) (.nd 273 (.lf 272 ⟨.func, 1, 8, [.nilf], false, false⟩) (.lf 273 ⟨.func, 1, 8, [.nilf], false, false⟩)))) (.nd 278 (.nd 276 (.nd 275 (.lf 274 ⟨.struct [(0, 3), (1, 3)], 2, 16, [.int 9223372036854775807 0, .int 9223372036854775807 0], true, true⟩) (.lf 275 ⟨.struct [(0, 3), (1, 3)], 2, 16, [.int 9223372036854775807 0, .int 9223372036854775807 0], true, true⟩)) (.nd 277 (.lf 276 ⟨.func, 1, 8, [.nilf], false, false⟩) (.lf 277 ⟨.func, 1, 8, [.nilf], false, false⟩))) (.nd 280 (.nd 279 (.lf 278 ⟨.func, 1, 8, [.nilf], false, false⟩) (.lf 279 ⟨.slice 360, 1, 24, [.nils], false, false⟩)) (.nd 281 (.lf 280 ⟨.func, 1, 8, [.nilf], false, false⟩) (.nd 282 (.lf 281 ⟨.func, 1, 8, [.nilf], false, false⟩) (.lf 282 ⟨.func, 1, 8, [.nilf], false, false⟩)))))))))) (.nd 427 (.nd 354 (.nd 317 (.nd 299 (.nd 291 (.nd 287 (.nd 285 (.nd 284 (.lf 283 ⟨.func, 1, 8, [.nilf], false, false⟩) (.lf 284 ⟨.func, 1, 8, [.nilf], false, false⟩)) (.nd 286 (.lf 285 ⟨.func, 1, 8, [.nilf], false, false⟩) (.lf 286 ⟨.func, 1, 8, [.nilf], false, false⟩))) (.nd 289 (.nd 288 (.lf 287 ⟨.func, 1, 8, [.nilf], false, false⟩) (.lf 288 ⟨.func, 1, 8, [.nilf], false, false⟩)) (.nd 290 (.lf 289 ⟨.func, 1, 8, [.nilf], false, false⟩) (.lf 290 ⟨.int .u64, 1, 8, [.int 18446744073709551615 0], false, true⟩)))) (.nd 295 (.nd 293 (.nd 292 (.lf 291 ⟨.slice 294, 1, 24, [.nils], false, false⟩) (.lf 292 ⟨.struct [(0, 9), (1, 3), (2, 3), (3, 9), (4, 9)], 5, 64, [.str [], .int 9223372036854775807 0, .int 9223372036854775807 0, .str [], .str []], true, true⟩)) (.nd 294 (.lf 293 ⟨.struct [(0, 9), (1, 3), (2, 3), (3, 9), (4, 9)], 5, 64, [.str [], .int 9223372036854775807 0, .int 9223372036854775807 0, .str [], .str []], true, true⟩) (.lf 294 ⟨.array 2 3, 2, 16, [.int 9223372036854775807 0, .int 9223372036854775807 0], true, true⟩))) (.nd 297 (.nd 296 (.lf 295 ⟨.func, 1, 8, [.nilf], false, false⟩) (.lf 296 ⟨.func, 1, 8, [.nilf], false, false⟩)) (.nd 298 (.lf 297 ⟨.struct [(0, 9), (1, 40)], 2, 24, [.str [], .int 18446744073709551615 0], true, true⟩) (.lf 298 ⟨.struct [(0, 9), (1, 40)], 2, 24, [.str [], .int 18446744073709551615 0], true, true⟩))))) (.nd 307 (.nd 303 (.nd 301 (.nd 300 (.lf 299 ⟨.struct [(0, 40), (1, 3)], 2, 16, [.int 18446744073709551615 0, .int 9223372036854775807 0], true, true⟩) (.lf 300 ⟨.struct [(0, 40), (1, 3)], 2, 16, [.int 18446744073709551615 0, .int 9223372036854775807 0], true, true⟩)) (.nd 302 (.lf 301 ⟨.func, 1, 8, [.nilf], false, false⟩) (.lf 302 ⟨.func, 1, 8, [.nilf], false, false⟩))) (.nd 305 (.nd 304 (.lf 303 ⟨.func, 1, 8, [.nilf], false, false⟩) (.lf 304 ⟨.func, 1, 8, [.nilf], false, false⟩)) (.nd 306 (.lf 305 ⟨.func, 1, 8, [.nilf], false, false⟩) (.lf 306 ⟨.func, 1, 8, [.nilf], false, false⟩)))) (.nd 311 (.nd 309 (.nd 308 (.lf 307 ⟨.map 4 9, 1, 8, [.nilm], false, false⟩) (.lf 308 ⟨.pointer 74, 1, 8, [.nil], false, false⟩)) (.nd 310 (.lf 309 ⟨.func, 1, 8, [.nilf], false, false⟩) (.lf 310 ⟨.func, 1, 8, [.nilf], false, false⟩))) (.nd 313 (.nd 312 (.lf 311 ⟨.pointer 313, 1, 8, [.nil], false, false⟩) (.lf 312 ⟨.struct [(0, 9), (1, 3), (2, 218)], 3, 48, [.str [], .int 9223372036854775807 0, .nils], true, false⟩)) (.nd 315 (.lf 313 ⟨.struct [(0, 9), (1, 3), (2, 218)], 3, 48, [.str [], .int 9223372036854775807 0, .nils], true, false⟩) (.nd 316 (.lf 315 ⟨.func, 1, 8, [.nilf], false, false⟩) (.lf 316 ⟨.func, 1, 8, [.nilf], false, false⟩))))))) (.nd 336 (.nd 327 (.nd 322 (.nd 319 (.nd 318 (.lf 317 ⟨.func, 1, 8, [.nilf], false, false⟩) (.lf 318 ⟨.func, 1, 8, [.nilf], false, false⟩)) (.nd 320 (.lf 319 ⟨.pointer 223, 1, 8, [.nil], false, false⟩) (.lf 320 ⟨.pointer 324, 1, 8, [.nil], false, false⟩))) (.nd 324 (.nd 323 (.lf 322 ⟨.func, 1, 8, [.nilf], false, false⟩) (.lf 323 ⟨.struct [(0, 64), (2, 231), (3, 190), (4, 180), (5, 45)], 7, 120, [.nils, .nils, .nils, .nils, .nilm, .int 9223372036854775807 0, .int 9223372036854775807 0], true, false⟩)) (.nd 325 (.lf 324 ⟨.struct [(0, 64), (2, 231), (3, 190), (4, 180), (5, 45)], 7, 120, [.nils, .nils, .nils, .nils, .nilm, .int 9223372036854775807 0, .int 9223372036854775807 0], true, false⟩) (.lf 325 ⟨.pointer 330, 1, 8, [.nil], false, false⟩)))) (.nd 332 (.nd 330 (.nd 329 (.lf 327 ⟨.func, 1, 8, [.nilf], false, false⟩) (.lf 329 ⟨.struct [(0, 64), (2, 240)], 3, 56, [.nils, .nils, .nilm], true, false⟩)) (.nd 331 (.lf 330 ⟨.struct [(0, 64), (2, 240)], 3, 56, [.nils, .nils, .nilm], true, false⟩) (.lf 331 ⟨.func, 1, 8, [.nilf], false, false⟩))) (.nd 334 (.nd 333 (.lf 332 ⟨.func, 1, 8, [.nilf], false, false⟩) (.lf 333 ⟨.pointer 244, 1, 8, [.nil], false, false⟩)) (.nd 335 (.lf 334 ⟨.func, 1, 8, [.nilf], false, false⟩) (.lf 335 ⟨.func, 1, 8, [.nilf], false, false⟩))))) (.nd 344 (.nd 340 (.nd 338 (.nd 337 (.lf 336 ⟨.func, 1, 8, [.nilf], false, false⟩) (.lf 337 ⟨.func, 1, 8, [.nilf], false, false⟩)) (.nd 339 (.lf 338 ⟨.func, 1, 8, [.nilf], false, false⟩) (.lf 339 ⟨.array 3 3, 3, 24, [.int 9223372036854775807 0, .int 9223372036854775807 0, .int 9223372036854775807 0], true, true⟩))) (.nd 342 (.nd 341 (.lf 340 ⟨.func, 1, 8, [.nilf], false, false⟩) (.lf 341 ⟨.pointer 43, 1, 8, [.nil], false, false⟩)) (.nd 343 (.lf 342 ⟨.func, 1, 8, [.nilf], false, false⟩) (.lf 343 ⟨.func, 1, 8, [.nilf], false, false⟩)))) (.nd 349 (.nd 346 (.nd 345 (.lf 344 ⟨.func, 1, 8, [.nilf], false, false⟩) (.lf 345 ⟨.func, 1, 8, [.nilf], false, false⟩)) (.nd 348 (.lf 346 ⟨.func, 1, 8, [.nilf], false, false⟩) (.lf 348 ⟨.func, 1, 8, [.nilf], false, false⟩))) (.nd 351 (.nd 350 (.lf 349 ⟨.struct [(0, 68)], 1, 4, [.int 4294967295 0], true, true⟩) (.lf 350 ⟨.struct [(0, 68)], 1, 4, [.int 4294967295 0], true, true⟩)) (.nd 352 (.lf 351 ⟨.func, 1, 8, [.nilf], false, false⟩) (.nd 353 (.lf 352 ⟨.func, 1, 8, [.nilf], false, false⟩) (.lf 353 ⟨.func, 1, 8, [.nilf], false, false⟩)))))))) (.nd 391 (.nd 372 (.nd 362 (.nd 358 (.nd 356 (.nd 355 (.lf 354 ⟨.func, 1, 8, [.nilf], false, false⟩) (.lf 355 ⟨.func, 1, 8, [.nilf], false, false⟩)) (.nd 357 (.lf 356 ⟨.func, 1, 8, [.nilf], false, false⟩) (.lf 357 ⟨.func, 1, 8, [.nilf], false, false⟩))) (.nd 360 (.nd 359 (.lf 358 ⟨.func, 1, 8, [.nilf], false, false⟩) (.lf 359 ⟨.struct [(0, 9), (1, 40)], 2, 24, [.str [], .int 18446744073709551615 0], true, true⟩)) (.nd 361 (.lf 360 ⟨.struct [(0, 9), (1, 40)], 2, 24, [.str [], .int 18446744073709551615 0], true, true⟩) (.lf 361 ⟨.map 3 363, 1, 8, [.nilm], false, false⟩)))) (.nd 368 (.nd 365 (.nd 363 (.lf 362 ⟨.struct [(0, 43), (4, 3), (5, 3)], 6, 80, [.int 18446744073709551615 0, .bool false, .nils, .nils, .int 9223372036854775807 0, .int 9223372036854775807 0], true, false⟩) (.lf 363 ⟨.struct [(0, 43), (4, 3), (5, 3)], 6, 80, [.int 18446744073709551615 0, .bool false, .nils, .nils, .int 9223372036854775807 0, .int 9223372036854775807 0], true, false⟩)) (.nd 366 (.lf 365 ⟨.func, 1, 8, [.nilf], false, false⟩) (.lf 366 ⟨.func, 1, 8, [.nilf], false, false⟩))) (.nd 370 (.nd 369 (.lf 368 ⟨.func, 1, 8, [.nilf], false, false⟩) (.lf 369 ⟨.array 20 5, 20, 20, frep 20 (.int 255 0), true, true⟩)) (.nd 371 (.lf 370 ⟨.pointer 72, 1, 8, [.nil], false, false⟩) (.lf 371 ⟨.func, 1, 8, [.nilf], false, false⟩))))) (.nd 381 (.nd 376 (.nd 374 (.nd 373 (.lf 372 ⟨.func, 1, 8, [.nilf], false, false⟩) (.lf 373 ⟨.func, 1, 8, [.nilf], false, false⟩)) (.nd 375 (.lf 374 ⟨.func, 1, 8, [.nilf], false, false⟩) (.lf 375 ⟨.func, 1, 8, [.nilf], false, false⟩))) (.nd 378 (.nd 377 (.lf 376 ⟨.func, 1, 8, [.nilf], false, false⟩) (.lf 377 ⟨.func, 1, 8, [.nilf], false, false⟩)) (.nd 379 (.lf 378 ⟨.func, 1, 8, [.nilf], false, false⟩) (.lf 379 ⟨.func, 1, 8, [.nilf], false, false⟩)))) (.nd 385 (.nd 383 (.nd 382 (.lf 381 ⟨.func, 1, 8, [.nilf], false, false⟩) (.lf 382 ⟨.array 4 40, 4, 32, [.int 18446744073709551615 0, .int 18446744073709551615 0, .int 18446744073709551615 0, .int 18446744073709551615 0], true, true⟩)) (.nd 384 (.lf 383 ⟨.array 4 40, 4, 32, [.int 18446744073709551615 0, .int 18446744073709551615 0, .int 18446744073709551615 0, .int 18446744073709551615 0], true, true⟩) (.lf 384 ⟨.struct [(0, 383), (4, 4), (5, 4)], 6, 40, [.int 18446744073709551615 0, .int 18446744073709551615 0, .int 18446744073709551615 0, .int 18446744073709551615 0, .bool false, .bool false], true, true⟩))) (.nd 387 (.nd 386 (.lf 385 ⟨.struct [(0, 383), (4, 4), (5, 4)], 6, 40, [.int 18446744073709551615 0, .int 18446744073709551615 0, .int 18446744073709551615 0, .int 18446744073709551615 0, .bool false, .bool false], true, true⟩) (.lf 386 ⟨.func, 1, 8, [.nilf], false, false⟩)) (.nd 389 (.lf 387 ⟨.func, 1, 8, [.nilf], false, false⟩) (.nd 390 (.lf 389 ⟨.struct [(0, 40), (1, 3)], 2, 16, [.int 18446744073709551615 0, .int 9223372036854775807 0], true, true⟩) (.lf 390 ⟨.struct [(0, 40), (1, 3)], 2, 16, [.int 18446744073709551615 0, .int 9223372036854775807 0], true, true⟩))))))) (.nd 409 (.nd 399 (.nd 395 (.nd 393 (.nd 392 (.lf 391 ⟨.func, 1, 8, [.nilf], false, false⟩) (.lf 392 ⟨.func, 1, 8, [.nilf], false, false⟩)) (.nd 394 (.lf 393 ⟨.func, 1, 8, [.nilf], false, false⟩) (.lf 394 ⟨.func, 1, 8, [.nilf], false, false⟩))) (.nd 397 (.nd 396 (.lf 395 ⟨.func, 1, 8, [.nilf], false, false⟩) (.lf 396 ⟨.func, 1, 8, [.nilf], false, false⟩)) (.nd 398 (.lf 397 ⟨.func, 1, 8, [.nilf], false, false⟩) (.lf 398 ⟨.struct [(0, 4), (1, 40), (2, 3)], 3, 24, [.bool false, .int 18446744073709551615 0, .int 9223372036854775807 0], true, true⟩)))) (.nd 404 (.nd 402 (.nd 401 (.lf 399 ⟨.struct [(0, 4), (1, 40), (2, 3)], 3, 24, [.bool false, .int 18446744073709551615 0, .int 9223372036854775807 0], true, true⟩) (.lf 401 ⟨.func, 1, 8, [.nilf], false, false⟩)) (.nd 403 (.lf 402 ⟨.slice 23, 1, 24, [.nils], false, false⟩) (.lf 403 ⟨.struct [(0, 251), (256, 402), (257, 190)], 258, 304, [.int 255 0, .int 255 0, .int 255 0, .int 255 0, .int 255 0, .int 255 0, .int 255 0, .int 255 0, .int 255 0, .int 255 0, .int 255 0, .int 255 0, .int 255 0, .int 255 0, .int 255 0, .int 255 0, .int 255 0, .int 255 0, .int 255 0, .int 255 0, .int 255 0, .int 255 0, .int 255 0, .int 255 0, .int 255 0, .int 255 0, .int 255 0, .int 255 0, .int 255 0, .int 255 0, .int 255 0, .int 255 0, .int 255 0, .int 255 0, .int 255 0, .int 255 0, .int 255 0, .int 255 0, .int 255 0, .int 255 0, .int 255 0, .int 255 0, .int 255 0, .int 255 0, .int 255 0, .int 255 0, .int 255 0, .int 255 0, .int 255 0, .int 255 0, .int 255 0, .int 255 0, .int 255 0, .int 255 0, .int 255 0, .int 255 0, .int 255 0, .int 255 0, .int 255 0, .int 255 0, .int 255 0, .int 255 0, .int 255 0, .int 255 0, .int 255 0, .int 255 0, .int 255 0, .int 255 0, .int 255 0, .int 255 0, .int 255 0, .int 255 0, .int 255 0, .int 255 0, .int 255 0, .int 255 0, .int 255 0, .int 255 0, .int 255 0, .int 255 0, .int 255 0, .int 255 0, .int 255 0, .int 255 0, .int 255 0, .int 255 0, .int 255 0, .int 255 0, .int 255 0, .int 255 0, .int 255 0, .int 255 0, .int 255 0, .int 255 0, .int 255 0, .int 255 0, .int 255 0, .int 255 0, .int 255 0, .int 255 0, .int 255 0, .int 255 0, .int 255 0, .int 255 0, .int 255 0, .int 255 0, .int 255 0, .int 255 0, .int 255 0, .int 255 0, .int 255 0, .int 255 0, .int 255 0, .int 255 0, .int 255 0, .int 255 0, .int 255 0, .int 255 0, .int 255 0, .int 255 0, .int 255 0, .int 255 0, .int 255 0, .int 255 0, .int 255 0, .int 255 0, .int 255 0, .int 255 0, .int 255 0, .int 255 0, .int 255 0, .int 255 0, .int 255 0, .int 255 0, .int 255 0, .int 255 0, .int 255 0, .int 255 0, .int 255 0, .int 255 0, .int 255 0, .int 255 0, .int 255 0, .int 255 0, .int 255 0, .int 255 0, .int 255 0, .int 255 0, .int 255 0, .int 255 0, .int 255 0, .int 255 0, .int 255 0, .int 255 0, .int 255 0, .int 255 0, .int 255 0, .int 255 0, .int 255 0, .int 255 0, .int 255 0, .int 255 0, .int 255 0, .int 255 0, .int 255 0, .int 255 0, .int 255 0, .int 255 0, .int 255 0, .int 255 0, .int 255 0, .int 255 0, .int 255 0, .int 255 0, .int 255 0, .int 255 0, .int 255 0, .int 255 0, .int 255 0, .int 255 0, .int 255 0, .int 255 0, .int 255 0, .int 255 0, .int 255 0, .int 255 0, .int 255 0, .int 255 0, .int 255 0, .int 255 0, .int 255 0, .int 255 0, .int 255 0, .int 255 0, .int 255 0, .int 255 0, .int 255 0, .int 255 0, .int 255 0, .int 255 0, .int 255 0, .int 255 0, .int 255 0, .int 255 0, .int 255 0, .int 255 0, .int 255 0, .int 255 0, .int 255 0, .int 255 0, .int 255 0, .int 255 0, .int 255 0, .int 255 0, .int 255 0, .int 255 0, .int 255 0, .int 255 0, .int 255 0, .int 255 0, .int 255 0, .int 255 0, .int 255 0, .int 255 0, .int 255 0, .int 255 0, .int 255 0, .int 255 0, .int 255 0, .int 255 0, .int 255 0, .int 255 0, .int 255 0, .int 255 0, .int 255 0, .int 255 0, .int 255 0, .int 255 0, .int 255 0, .int 255 0, .int 255 0, .int 255 0, .int 255 0, .int 255 0, .int 255 0, .int 255 0, .int 255 0, .int 255 0, .int 255 0, .int 255 0, .int 255 0, .int 255 0, .int 255 0, .int 255 0, .int 255 0, .int 255 0, .nils, .nils], true, false⟩))) (.nd 406 (.nd 405 (.lf 404 ⟨.struct [(0, 251), (256, 402), (257, 190)], 258, 304, [.int 255 0, .int 255 0, .int 255 0, .int 255 0, .int 255 0, .int 255 0, .int 255 0, .int 255 0, .int 255 0, .int 255 0, .int 255 0, .int 255 0, .int 255 0, .int 255 0, .int 255 0, .int 255 0, .int 255 0, .int 255 0, .int 255 0, .int 255 0, .int 255 0, .int 255 0, .int 255 0, .int 255 0, .int 255 0, .int 255 0, .int 255 0, .int 255 0, .int 255 0, .int 255 0, .int 255 0, .int 255 0, .int 255 0, .int 255 0, .int 255 0, .int 255 0, .int 255 0, .int 255 0, .int 255 0, .int 255 0, .int 255 0, .int 255 0, .int 255 0, .int 255 0, .int 255 0, .int 255 0, .int 255 0, .int 255 0, .int 255 0, .int 255 0, .int 255 0, .int 255 0, .int 255 0, .int 255 0, .int 255 0, .int 255 0, .int 255 0, .int 255 0, .int 255 0, .int 255 0, .int 255 0, .int 255 0, .int 255 0, .int 255 0, .int 255 0, .int 255 0, .int 255 0, .int 255 0, .int 255 0, .int 255 0, .int 255 0, .int 255 0, .int 255 0, .int 255 0, .int 255 0, .int 255 0, .int 255 0, .int 255 0, .int 255 0, .int 255 0, .int 255 0, .int 255 0, .int 255 0, .int 255 0, .int 255 0, .int 255 0, .int 255 0, .int 255 0, .int 255 0, .int 255 0, .int 255 0, .int 255 0, .int 255 0, .int 255 0, .int 255 0, .int 255 0, .int 255 0, .int 255 0, .int 255 0, .int 255 0, .int 255 0, .int 255 0, .int 255 0, .int 255 0, .int 255 0, .int 255 0, .int 255 0, .int 255 0, .int 255 0, .int 255 0, .int 255 0, .int 255 0, .int 255 0, .int 255 0, .int 255 0, .int 255 0, .int 255 0, .int 255 0, .int 255 0, .int 255 0, .int 255 0, .int 255 0, .int 255 0, .int 255 0, .int 255 0, .int 255 0, .int 255 0, .int 255 0, .int 255 0, .int 255 0, .int 255 0, .int 255 0, .int 255 0, .int 255 0, .int 255 0, .int 255 0, .int 255 0, .int 255 0, .int 255 0, .int 255 0, .int 255 0, .int 255 0, .int 255 0, .int 255 0, .int 255 0, .int 255 0, .int 255 0, .int 255 0, .int 255 0, .int 255 0, .int 255 0, .int 255 0, .int 255 0, .int 255 0, .int 255 0, .int 255 0, .int 255 0, .int 255 0, .int 255 0, .int 255 0, .int 255 0, .int 255 0, .int 255 0, .int 255 0, .int 255 0, .int 255 0, .int 255 0, .int 255 0, .int 255 0, .int 255 0, .int 255 0, .int 255 0, .int 255 0, .int 255 0, .int 255 0, .int 255 0, .int 255 0, .int 255 0, .int 255 0, .int 255 0, .int 255 0, .int 255 0, .int 255 0, .int 255 0, .int 255 0, .int 255 0, .int 255 0, .int 255 0, .int 255 0, .int 255 0, .int 255 0, .int 255 0, .int 255 0, .int 255 0, .int 255 0, .int 255 0, .int 255 0, .int 255 0, .int 255 0, .int 255 0, .int 255 0, .int 255 0, .int 255 0, .int 255 0, .int 255 0, .int 255 0, .int 255 0, .int 255 0, .int 255 0, .int 255 0, .int 255 0, .int 255 0, .int 255 0, .int 255 0, .int 255 0, .int 255 0, .int 255 0, .int 255 0, .int 255 0, .int 255 0, .int 255 0, .int 255 0, .int 255 0, .int 255 0, .int 255 0, .int 255 0, .int 255 0, .int 255 0, .int 255 0, .int 255 0, .int 255 0, .int 255 0, .int 255 0, .int 255 0, .int 255 0, .int 255 0, .int 255 0, .int 255 0, .int 255 0, .int 255 0, .int 255 0, .int 255 0, .int 255 0, .int 255 0, .int 255 0, .int 255 0, .int 255 0, .int 255 0, .int 255 0, .int 255 0, .int 255 0, .int 255 0, .int 255 0, .int 255 0, .int 255 0, .int 255 0, .nils, .nils], true, false⟩) (.lf 405 ⟨.func, 1, 8, [.nilf], false, false⟩)) (.nd 407 (.lf 406 ⟨.func, 1, 8, [.nilf], false, false⟩) (.lf 407 ⟨.func, 1, 8, [.nilf], false, false⟩))))) (.nd 418 (.nd 413 (.nd 411 (.nd 410 (.lf 409 ⟨.func, 1, 8, [.nilf], false, false⟩) (.lf 410 ⟨.func, 1, 8, [.nilf], false, false⟩)) (.nd 412 (.lf 411 ⟨.func, 1, 8, [.nilf], false, false⟩) (.lf 412 ⟨.func, 1, 8, [.nilf], false, false⟩))) (.nd 416 (.nd 414 (.lf 413 ⟨.func, 1, 8, [.nilf], false, false⟩) (.lf 414 ⟨.func, 1, 8, [.nilf], false, false⟩)) (.nd 417 (.lf 416 ⟨.func, 1, 8, [.nilf], false, false⟩) (.lf 417 ⟨.func, 1, 8, [.nilf], false, false⟩)))) (.nd 422 (.nd 420 (.nd 419 (.lf 418 ⟨.func, 1, 8, [.nilf], false, false⟩) (.lf 419 ⟨.func, 1, 8, [.nilf], false, false⟩)) (.nd 421 (.lf 420 ⟨.pointer 422, 1, 8, [.nil], false, false⟩) (.lf 421 ⟨.struct [(0, 64), (2, 241)], 3, 56, [.nils, .nils, .nilm], true, false⟩))) (.nd 424 (.nd 423 (.lf 422 ⟨.struct [(0, 64), (2, 241)], 3, 56, [.nils, .nils, .nilm], true, false⟩) (.lf 423 ⟨.func, 1, 8, [.nilf], false, false⟩)) (.nd 425 (.lf 424 ⟨.slice 427, 1, 24, [.nils], false, false⟩) (.nd 426 (.lf 425 ⟨.array 2 9, 2, 32, [.str [], .str []], true, true⟩) (.lf 426 ⟨.struct [(0, 9), (1, 3), (2, 3), (3, 4)], 4, 40, [.str [], .int 9223372036854775807 0, .int 9223372036854775807 0, .bool false], true, true⟩))))))))) (.nd 502 (.nd 465 (.nd 447 (.nd 438 (.nd 433 (.nd 430 (.nd 429 (.lf 427 ⟨.struct [(0, 9), (1, 3), (2, 3), (3, 4)], 4, 40, [.str [], .int 9223372036854775807 0, .int 9223372036854775807 0, .bool false], true, true⟩) (.lf 429 ⟨.func, 1, 8, [.nilf], false, false⟩)) (.nd 432 (.lf 430 ⟨.pointer 253, 1, 8, [.nil], false, false⟩) (.lf 432 ⟨.func, 1, 8, [.nilf], false, false⟩))) (.nd 436 (.nd 435 (.lf 433 ⟨.pointer 399, 1, 8, [.nil], false, false⟩) (.lf 435 ⟨.func, 1, 8, [.nilf], false, false⟩)) (.nd 437 (.lf 436 ⟨.func, 1, 8, [.nilf], false, false⟩) (.lf 437 ⟨.func, 1, 8, [.nilf], false, false⟩)))) (.nd 443 (.nd 441 (.nd 439 (.lf 438 ⟨.array 24 5, 24, 24, frep 24 (.int 255 0), true, true⟩) (.lf 439 ⟨.func, 1, 8, [.nilf], false, false⟩)) (.nd 442 (.lf 441 ⟨.func, 1, 8, [.nilf], false, false⟩) (.lf 442 ⟨.slice 444, 1, 24, [.nils], false, false⟩))) (.nd 445 (.nd 444 (.lf 443 ⟨.struct [(0, 3), (1, 3)], 2, 16, [.int 9223372036854775807 0, .int 9223372036854775807 0], true, true⟩) (.lf 444 ⟨.struct [(0, 3), (1, 3)], 2, 16, [.int 9223372036854775807 0, .int 9223372036854775807 0], true, true⟩)) (.nd 446 (.lf 445 ⟨.func, 1, 8, [.nilf], false, false⟩) (.lf 446 ⟨.pointer 462, 1, 8, [.nil], false, false⟩))))) (.nd 456 (.nd 451 (.nd 449 (.nd 448 (.lf 447 ⟨.func, 1, 8, [.nilf], false, false⟩) (.lf 448 ⟨.func, 1, 8, [.nilf], false, false⟩)) (.nd 450 (.lf 449 ⟨.func, 1, 8, [.nilf], false, false⟩) (.lf 450 ⟨.func, 1, 8, [.nilf], false, false⟩))) (.nd 454 (.nd 452 (.lf 451 ⟨.func, 1, 8, [.nilf], false, false⟩) (.lf 452 ⟨.func, 1, 8, [.nilf], false, false⟩)) (.nd 455 (.lf 454 ⟨.func, 1, 8, [.nilf], false, false⟩) (.lf 455 ⟨.func, 1, 8, [.nilf], false, false⟩)))) (.nd 460 (.nd 458 (.nd 457 (.lf 456 ⟨.array 20 40, 20, 160, frep 20 (.int 18446744073709551615 0), true, true⟩) (.lf 457 ⟨.array 65 5, 65, 65, frep 65 (.int 255 0), true, true⟩)) (.nd 459 (.lf 458 ⟨.func, 1, 8, [.nilf], false, false⟩) (.lf 459 ⟨.slice 465, 1, 24, [.nils], false, false⟩))) (.nd 462 (.nd 461 (.lf 460 ⟨.slice 468, 1, 24, [.nils], false, false⟩) (.lf 461 ⟨.struct [(0, 459), (1, 460), (2, 3)], 3, 56, [.nils, .nils, .int 9223372036854775807 0], true, false⟩)) (.nd 463 (.lf 462 ⟨.struct [(0, 459), (1, 460), (2, 3)], 3, 56, [.nils, .nils, .int 9223372036854775807 0], true, false⟩) (.nd 464 (.lf 463 ⟨.int .u16, 1, 2, [.int 65535 0], false, true⟩) (.lf 464 ⟨.struct [(0, 463), (1, 463), (2, 463)], 3, 6, [.int 65535 0, .int 65535 0, .int 65535 0], true, true⟩))))))) (.nd 483 (.nd 473 (.nd 469 (.nd 467 (.nd 466 (.lf 465 ⟨.struct [(0, 463), (1, 463), (2, 463)], 3, 6, [.int 65535 0, .int 65535 0, .int 65535 0], true, true⟩) (.lf 466 ⟨.func, 1, 8, [.nilf], false, false⟩)) (.nd 468 (.lf 467 ⟨.struct [(0, 68), (1, 68), (2, 68)], 3, 12, [.int 4294967295 0, .int 4294967295 0, .int 4294967295 0], true, true⟩) (.lf 468 ⟨.struct [(0, 68), (1, 68), (2, 68)], 3, 12, [.int 4294967295 0, .int 4294967295 0, .int 4294967295 0], true, true⟩))) (.nd 471 (.nd 470 (.lf 469 ⟨.func, 1, 8, [.nilf], false, false⟩) (.lf 470 ⟨.func, 1, 8, [.nilf], false, false⟩)) (.nd 472 (.lf 471 ⟨.func, 1, 8, [.nilf], false, false⟩) (.lf 472 ⟨.func, 1, 8, [.nilf], false, false⟩)))) (.nd 479 (.nd 475 (.nd 474 (.lf 473 ⟨.slice 475, 1, 24, [.nils], false, false⟩) (.lf 474 ⟨.struct [(0, 3), (1, 382), (5, 473), (6, 3), (7, 3)], 8, 80, [.int 9223372036854775807 0, .int 18446744073709551615 0, .int 18446744073709551615 0, .int 18446744073709551615 0, .int 18446744073709551615 0, .nils, .int 9223372036854775807 0, .int 9223372036854775807 0], true, false⟩)) (.nd 477 (.lf 475 ⟨.struct [(0, 3), (1, 382), (5, 473), (6, 3), (7, 3)], 8, 80, [.int 9223372036854775807 0, .int 18446744073709551615 0, .int 18446744073709551615 0, .int 18446744073709551615 0, .int 18446744073709551615 0, .nils, .int 9223372036854775807 0, .int 9223372036854775807 0], true, false⟩) (.lf 477 ⟨.func, 1, 8, [.nilf], false, false⟩))) (.nd 481 (.nd 480 (.lf 479 ⟨.func, 1, 8, [.nilf], false, false⟩) (.lf 480 ⟨.func, 1, 8, [.nilf], false, false⟩)) (.nd 482 (.lf 481 ⟨.func, 1, 8, [.nilf], false, false⟩) (.lf 482 ⟨.map 40 4, 1, 8, [.nilm], false, false⟩))))) (.nd 491 (.nd 487 (.nd 485 (.nd 484 (.lf 483 ⟨.func, 1, 8, [.nilf], false, false⟩) (.lf 484 ⟨.pointer 465, 1, 8, [.nil], false, false⟩)) (.nd 486 (.lf 485 ⟨.pointer 468, 1, 8, [.nil], false, false⟩) (.lf 486 ⟨.func, 1, 8, [.nilf], false, false⟩))) (.nd 489 (.nd 488 (.lf 487 ⟨.pointer 489, 1, 8, [.nil], false, false⟩) (.lf 488 ⟨.struct [(0, 9), (1, 3), (2, 3), (3, 45)], 5, 48, [.str [], .int 9223372036854775807 0, .int 9223372036854775807 0, .int 9223372036854775807 0, .int 9223372036854775807 0], true, true⟩)) (.nd 490 (.lf 489 ⟨.struct [(0, 9), (1, 3), (2, 3), (3, 45)], 5, 48, [.str [], .int 9223372036854775807 0, .int 9223372036854775807 0, .int 9223372036854775807 0, .int 9223372036854775807 0], true, true⟩) (.lf 490 ⟨.func, 1, 8, [.nilf], false, false⟩)))) (.nd 496 (.nd 493 (.nd 492 (.lf 491 ⟨.slice 533, 1, 24, [.nils], false, false⟩) (.lf 492 ⟨.struct [(0, 491), (1, 3)], 2, 32, [.nils, .int 9223372036854775807 0], true, false⟩)) (.nd 495 (.lf 493 ⟨.struct [(0, 491), (1, 3)], 2, 32, [.nils, .int 9223372036854775807 0], true, false⟩) (.lf 495 ⟨.func, 1, 8, [.nilf], false, false⟩))) (.nd 499 (.nd 497 (.lf 496 ⟨.func, 1, 8, [.nilf], false, false⟩) (.lf 497 ⟨.func, 1, 8, [.nilf], false, false⟩)) (.nd 500 (.lf 499 ⟨.func, 1, 8, [.nilf], false, false⟩) (.nd 501 (.lf 500 ⟨.func, 1, 8, [.nilf], false, false⟩) (.lf 501 ⟨.map 3 4, 1, 8, [.nilm], false, false⟩)))))))) (.nd 536 (.nd 518 (.nd 510 (.nd 506 (.nd 504 (.nd 503 (.lf 502 ⟨.func, 1, 8, [.nilf], false, false⟩) (.lf 503 ⟨.func, 1, 8, [.nilf], false, false⟩)) (.nd 505 (.lf 504 ⟨.array 32 5, 32, 32, frep 32 (.int 255 0), true, true⟩) (.lf 505 ⟨.array 64 5, 64, 64, frep 64 (.int 255 0), true, true⟩))) (.nd 508 (.nd 507 (.lf 506 ⟨.func, 1, 8, [.nilf], false, false⟩) (.lf 507 ⟨.func, 1, 8, [.nilf], false, false⟩)) (.nd 509 (.lf 508 ⟨.func, 1, 8, [.nilf], false, false⟩) (.lf 509 ⟨.pointer 511, 1, 8, [.nil], false, false⟩)))) (.nd 514 (.nd 512 (.nd 511 (.lf 510 ⟨.struct [(0, 493), (2, 4)], 3, 40, [.nils, .int 9223372036854775807 0, .bool false], true, false⟩) (.lf 511 ⟨.struct [(0, 493), (2, 4)], 3, 40, [.nils, .int 9223372036854775807 0, .bool false], true, false⟩)) (.nd 513 (.lf 512 ⟨.func, 1, 8, [.nilf], false, false⟩) (.lf 513 ⟨.slice 383, 1, 24, [.nils], false, false⟩))) (.nd 516 (.nd 515 (.lf 514 ⟨.func, 1, 8, [.nilf], false, false⟩) (.lf 515 ⟨.func, 1, 8, [.nilf], false, false⟩)) (.nd 517 (.lf 516 ⟨.func, 1, 8, [.nilf], false, false⟩) (.lf 517 ⟨.func, 1, 8, [.nilf], false, false⟩))))) (.nd 527 (.nd 523 (.nd 521 (.nd 520 (.lf 518 ⟨.func, 1, 8, [.nilf], false, false⟩) (.lf 520 ⟨.func, 1, 8, [.nilf], false, false⟩)) (.nd 522 (.lf 521 ⟨.func, 1, 8, [.nilf], false, false⟩) (.lf 522 ⟨.func, 1, 8, [.nilf], false, false⟩))) (.nd 525 (.nd 524 (.lf 523 ⟨.func, 1, 8, [.nilf], false, false⟩) (.lf 524 ⟨.func, 1, 8, [.nilf], false, false⟩)) (.nd 526 (.lf 525 ⟨.func, 1, 8, [.nilf], false, false⟩) (.lf 526 ⟨.pointer 3, 1, 8, [.nil], false, false⟩)))) (.nd 531 (.nd 529 (.nd 528 (.lf 527 ⟨.func, 1, 8, [.nilf], false, false⟩) (.lf 528 ⟨.struct [(0, 3), (1, 383), (5, 4)], 6, 48, [.int 9223372036854775807 0, .int 18446744073709551615 0, .int 18446744073709551615 0, .int 18446744073709551615 0, .int 18446744073709551615 0, .bool false], true, true⟩)) (.nd 530 (.lf 529 ⟨.struct [(0, 3), (1, 383), (5, 4)], 6, 48, [.int 9223372036854775807 0, .int 18446744073709551615 0, .int 18446744073709551615 0, .int 18446744073709551615 0, .int 18446744073709551615 0, .bool false], true, true⟩) (.lf 530 ⟨.array 2 383, 8, 64, [.int 18446744073709551615 0, .int 18446744073709551615 0, .int 18446744073709551615 0, .int 18446744073709551615 0, .int 18446744073709551615 0, .int 18446744073709551615 0, .int 18446744073709551615 0, .int 18446744073709551615 0], true, true⟩))) (.nd 533 (.nd 532 (.lf 531 ⟨.func, 1, 8, [.nilf], false, false⟩) (.lf 532 ⟨.map 383 4, 1, 8, [.nilm], false, false⟩)) (.nd 534 (.lf 533 ⟨.slice 529, 1, 24, [.nils], false, false⟩) (.nd 535 (.lf 534 ⟨.func, 1, 8, [.nilf], false, false⟩) (.lf 535 ⟨.func, 1, 8, [.nilf], false, false⟩))))))) (.nd 554 (.nd 544 (.nd 540 (.nd 538 (.nd 537 (.lf 536 ⟨.func, 1, 8, [.nilf], false, false⟩) (.lf 537 ⟨.map 9 5, 1, 8, [.nilm], false, false⟩)) (.nd 539 (.lf 538 ⟨.func, 1, 8, [.nilf], false, false⟩) (.lf 539 ⟨.func, 1, 8, [.nilf], false, false⟩))) (.nd 542 (.nd 541 (.lf 540 ⟨.func, 1, 8, [.nilf], false, false⟩) (.lf 541 ⟨.func, 1, 8, [.nilf], false, false⟩)) (.nd 543 (.lf 542 ⟨.func, 1, 8, [.nilf], false, false⟩) (.lf 543 ⟨.func, 1, 8, [.nilf], false, false⟩)))) (.nd 549 (.nd 546 (.nd 545 (.lf 544 ⟨.func, 1, 8, [.nilf], false, false⟩) (.lf 545 ⟨.func, 1, 8, [.nilf], false, false⟩)) (.nd 548 (.lf 546 ⟨.int .i64, 1, 8, [.int 9223372036854775807 0], false, true⟩) (.lf 548 ⟨.func, 1, 8, [.nilf], false, false⟩))) (.nd 551 (.nd 550 (.lf 549 ⟨.func, 1, 8, [.nilf], false, false⟩) (.lf 550 ⟨.func, 1, 8, [.nilf], false, false⟩)) (.nd 552 (.lf 551 ⟨.func, 1, 8, [.nilf], false, false⟩) (.nd 553 (.lf 552 ⟨.int .u64, 1, 8, [.int 18446744073709551615 0], false, true⟩) (.lf 553 ⟨.func, 1, 8, [.nilf], false, false⟩)))))) (.nd 562 (.nd 558 (.nd 556 (.nd 555 (.lf 554 ⟨.func, 1, 8, [.nilf], false, false⟩) (.lf 555 ⟨.func, 1, 8, [.nilf], false, false⟩)) (.nd 557 (.lf 556 ⟨.pointer 552, 1, 8, [.nil], false, false⟩) (.lf 557 ⟨.func, 1, 8, [.nilf], false, false⟩))) (.nd 560 (.nd 559 (.lf 558 ⟨.struct [(0, 17), (1, 17), (2, 17), (3, 9)], 4, 40, [.nil, .nil, .nil, .str []], true, false⟩) (.lf 559 ⟨.struct [(0, 17), (1, 17), (2, 17), (3, 9)], 4, 40, [.nil, .nil, .nil, .str []], true, false⟩)) (.nd 561 (.lf 560 ⟨.array 0 16, 0, 0, [], true, false⟩) (.lf 561 ⟨.struct [(0, 560)], 0, 0, [], true, false⟩)))) (.nd 566 (.nd 564 (.nd 563 (.lf 562 ⟨.struct [(0, 560)], 0, 0, [], true, false⟩) (.lf 563 ⟨.int .u8, 1, 1, [.int 255 0], false, true⟩)) (.nd 565 (.lf 564 ⟨.int .u8, 1, 1, [.int 255 0], false, true⟩) (.lf 565 ⟨.func, 1, 8, [.nilf], false, false⟩))) (.nd 568 (.nd 567 (.lf 566 ⟨.int .i32, 1, 4, [.int 2147483647 0], false, true⟩) (.lf 567 ⟨.int .i32, 1, 4, [.int 2147483647 0], false, true⟩)) (.nd 569 (.lf 568 ⟨.struct [(0, 12), (1, 12), (2, 68), (3, 563), (4, 5), (5, 5), (6, 564), (7, 565), (8, 213), (9, 566), (10, 567)], 11, 48, [.int 18446744073709551615 0, .int 18446744073709551615 0, .int 4294967295 0, .int 255 0, .int 255 0, .int 255 0, .int 255 0, .nilf, .nil, .int 2147483647 0, .int 2147483647 0], true, false⟩) (.nd 570 (.lf 569 ⟨.struct [(0, 12), (1, 12), (2, 68), (3, 563), (4, 5), (5, 5), (6, 564), (7, 565), (8, 213), (9, 566), (10, 567)], 11, 48, [.int 18446744073709551615 0, .int 18446744073709551615 0, .int 4294967295 0, .int 255 0, .int 255 0, .int 255 0, .int 255 0, .nilf, .nil, .int 2147483647 0, .int 2147483647 0], true, false⟩) (.lf 570 ⟨.func, 1, 8, [.nilf], false, false⟩)))))))))))
noncomputable def fnT : BT Func := (.nd 222 (.nd 111 (.nd 55 (.nd 27 (.nd 13 (.nd 6 (.nd 3 (.nd 1 (.lf 0 Tryz.f0) (.nd 2 (.lf 1 Tryz.f1) (.lf 2 Tryz.f2))) (.nd 4 (.lf 3 Tryz.f3) (.nd 5 (.lf 4 Tryz.f4) (.lf 5 Tryz.f5)))) (.nd 9 (.nd 7 (.lf 6 Tryz.f6) (.nd 8 (.lf 7 Tryz.f7) (.lf 8 Tryz.f8))) (.nd 11 (.nd 10 (.lf 9 Tryz.f9) (.lf 10 Tryz.f10)) (.nd 12 (.lf 11 Tryz.f11) (.lf 12 Tryz.f12))))) (.nd 20 (.nd 16 (.nd 14 (.lf 13 Tryz.f13) (.nd 15 (.lf 14 Tryz.f14) (.lf 15 Tryz.f15))) (.nd 18 (.nd 17 (.lf 16 Tryz.f16) (.lf 17 Tryz.f17)) (.nd 19 (.lf 18 Tryz.f18) (.lf 19 Tryz.f19)))) (.nd 23 (.nd 21 (.lf 20 Tryz.f20) (.nd 22 (.lf 21 Tryz.f21) (.lf 22 Tryz.f22))) (.nd 25 (.nd 24 (.lf 23 Tryz.f23) (.lf 24 Tryz.f24)) (.nd 26 (.lf 25 Tryz.f25) (.lf 26 Tryz.f26)))))) (.nd 41 (.nd 34 (.nd 30 (.nd 28 (.lf 27 Tryz.f27) (.nd 29 (.lf 28 Tryz.f28) (.lf 29 Tryz.f29))) (.nd 32 (.nd 31 (.lf 30 Tryz.f30) (.lf 31 Tryz.f31)) (.nd 33 (.lf 32 Tryz.f32) (.lf 33 Tryz.f33)))) (.nd 37 (.nd 35 (.lf 34 Tryz.f34) (.nd 36 (.lf 35 Tryz.f35) (.lf 36 Tryz.f36))) (.nd 39 (.nd 38 (.lf 37 Tryz.f37) (.lf 38 Tryz.f38)) (.nd 40 (.lf 39 Tryz.f39) (.lf 40 Tryz.f40))))) (.nd 48 (.nd 44 (.nd 42 (.lf 41 Tryz.f41) (.nd 43 (.lf 42 Tryz.f42) (.lf 43 Tryz.f43))) (.nd 46 (.nd 45 (.lf 44 Tryz.f44) (.lf 45 Tryz.f45)) (.nd 47 (.lf 46 Tryz.f46) (.lf 47 Tryz.f47)))) (.nd 51 (.nd 49 (.lf 48 Tryz.f48) (.nd 50 (.lf 49 Tryz.f49) (.lf 50 Tryz.f50))) (.nd 53 (.nd 52 (.lf 51 Tryz.f51) (.lf 52 Tryz.f52)) (.nd 54 (.lf 53 Tryz.f53) (.lf 54 Tryz.f54))))))) (.nd 83 (.nd 69 (.nd 62 (.nd 58 (.nd 56 (.lf 55 Tryz.f55) (.nd 57 (.lf 56 Tryz.f56) (.lf 57 Tryz.f57))) (.nd 60 (.nd 59 (.lf 58 Tryz.f58) (.lf 59 Tryz.f59)) (.nd 61 (.lf 60 Tryz.f60) (.lf 61 Tryz.f61)))) (.nd 65 (.nd 63 (.lf 62 Tryz.f62) (.nd 64 (.lf 63 Tryz.f63) (.lf 64 Tryz.f64))) (.nd 67 (.nd 66 (.lf 65 Tryz.f65) (.lf 66 Tryz.f66)) (.nd 68 (.lf 67 Tryz.f67) (.lf 68 Tryz.f68))))) (.nd 76 (.nd 72 (.nd 70 (.lf 69 Tryz.f69) (.nd 71 (.lf 70 Tryz.f70) (.lf 71 Tryz.f71))) (.nd 74 (.nd 73 (.lf 72 Tryz.f72) (.lf 73 Tryz.f73)) (.nd 75 (.lf 74 Tryz.f74) (.lf 75 Tryz.f75)))) (.nd 79 (.nd 77 (.lf 76 Tryz.f76) (.nd 78 (.lf 77 Tryz.f77) (.lf 78 Tryz.f78))) (.nd 81 (.nd 80 (.lf 79 Tryz.f79) (.lf 80 Tryz.f80)) (.nd 82 (.lf 81 Tryz.f81) (.lf 82 Tryz.f82)))))) (.nd 97 (.nd 90 (.nd 86 (.nd 84 (.lf 83 Tryz.f83) (.nd 85 (.lf 84 Tryz.f84) (.lf 85 Tryz.f85))) (.nd 88 (.nd 87 (.lf 86 Tryz.f86) (.lf 87 Tryz.f87)) (.nd 89 (.lf 88 Tryz.f88) (.lf 89 Tryz.f89)))) (.nd 93 (.nd 91 (.lf 90 Tryz.f90) (.nd 92 (.lf 91 Tryz.f91) (.lf 92 Tryz.f92))) (.nd 95 (.nd 94 (.lf 93 Tryz.f93) (.lf 94 Tryz.f94)) (.nd 96 (.lf 95 Tryz.f95) (.lf 96 Tryz.f96))))) (.nd 104 (.nd 100 (.nd 98 (.lf 97 Tryz.f97) (.nd 99 (.lf 98 Tryz.f98) (.lf 99 Tryz.f99))) (.nd 102 (.nd 101 (.lf 100 Tryz.f100) (.lf 101 Tryz.f101)) (.nd 103 (.lf 102 Tryz.f102) (.lf 103 Tryz.f103)))) (.nd 107 (.nd 105 (.lf 104 Tryz.f104) (.nd 106 (.lf 105 Tryz.f105) (.lf 106 Tryz.f106))) (.nd 109 (.nd 108 (.lf 107 Tryz.f107) (.lf 108 Tryz.f108)) (.nd 110 (.lf 109 Tryz.f109) (.lf 110 Tryz.f110)))))))) (.nd 166 (.nd 138 (.nd 124 (.nd 117 (.nd 114 (.nd 112 (.lf 111 Tryz.f111) (.nd 113 (.lf 112 Tryz.f112) (.lf 113 Tryz.f113))) (.nd 115 (.lf 114 Tryz.f114) (.nd 116 (.lf 115 Tryz.f115) (.lf 116 Tryz.f116)))) (.nd 120 (.nd 118 (.lf 117 Tryz.f117) (.nd 119 (.lf 118 Tryz.f118) (.lf 119 Tryz.f119))) (.nd 122 (.nd 121 (.lf 120 Tryz.f120) (.lf 121 Tryz.f121)) (.nd 123 (.lf 122 Tryz.f122) (.lf 123 Tryz.f123))))) (.nd 131 (.nd 127 (.nd 125 (.lf 124 Tryz.f124) (.nd 126 (.lf 125 Tryz.f125) (.lf 126 Tryz.f126))) (.nd 129 (.nd 128 (.lf 127 Tryz.f127) (.lf 128 Tryz.f128)) (.nd 130 (.lf 129 Tryz.f129) (.lf 130 Tryz.f130)))) (.nd 134 (.nd 132 (.lf 131 Tryz.f131) (.nd 133 (.lf 132 Tryz.f132) (.lf 133 Tryz.f133))) (.nd 136 (.nd 135 (.lf 134 Tryz.f134) (.lf 135 Tryz.f135)) (.nd 137 (.lf 136 Tryz.f136) (.lf 137 Tryz.f137)))))) (.nd 152 (.nd 145 (.nd 141 (.nd 139 (.lf 138 Tryz.f138) (.nd 140 (.lf 139 Tryz.f139) (.lf 140 Tryz.f140))) (.nd 143 (.nd 142 (.lf 141 Tryz.f141) (.lf 142 Tryz.f142)) (.nd 144 (.lf 143 Tryz.f143) (.lf 144 Tryz.f144)))) (.nd 148 (.nd 146 (.lf 145 Tryz.f145) (.nd 147 (.lf 146 Tryz.f146) (.lf 147 Tryz.f147))) (.nd 150 (.nd 149 (.lf 148 Tryz.f148) (.lf 149 Tryz.f149)) (.nd 151 (.lf 150 Tryz.f150) (.lf 151 Tryz.f151))))) (.nd 159 (.nd 155 (.nd 153 (.lf 152 Tryz.f152) (.nd 154 (.lf 153 Tryz.f153) (.lf 154 Tryz.f154))) (.nd 157 (.nd 156 (.lf 155 Tryz.f155) (.lf 156 Tryz.f156)) (.nd 158 (.lf 157 Tryz.f157) (.lf 158 Tryz.f158)))) (.nd 162 (.nd 160 (.lf 159 Tryz.f159) (.nd 161 (.lf 160 Tryz.f160) (.lf 161 Tryz.f161))) (.nd 164 (.nd 163 (.lf 162 Tryz.f162) (.lf 163 Tryz.f163)) (.nd 165 (.lf 164 Tryz.f164) (.lf 165 Tryz.f165))))))) (.nd 194 (.nd 180 (.nd 173 (.nd 169 (.nd 167 (.lf 166 Tryz.f166) (.nd 168 (.lf 167 Tryz.f167) (.lf 168 Tryz.f168))) (.nd 171 (.nd 170 (.lf 169 Tryz.f169) (.lf 170 Tryz.f170)) (.nd 172 (.lf 171 Tryz.f171) (.lf 172 Tryz.f172)))) (.nd 176 (.nd 174 (.lf 173 Tryz.f173) (.nd 175 (.lf 174 Tryz.f174) (.lf 175 Tryz.f175))) (.nd 178 (.nd 177 (.lf 176 Tryz.f176) (.lf 177 Tryz.f177)) (.nd 179 (.lf 178 Tryz.f178) (.lf 179 Tryz.f179))))) (.nd 187 (.nd 183 (.nd 181 (.lf 180 Tryz.f180) (.nd 182 (.lf 181 Tryz.f181) (.lf 182 Tryz.f182))) (.nd 185 (.nd 184 (.lf 183 Tryz.f183) (.lf 184 Tryz.f184)) (.nd 186 (.lf 185 Tryz.f185) (.lf 186 Tryz.f186)))) (.nd 190 (.nd 188 (.lf 187 Tryz.f187) (.nd 189 (.lf 188 Tryz.f188) (.lf 189 Tryz.f189))) (.nd 192 (.nd 191 (.lf 190 Tryz.f190) (.lf 191 Tryz.f191)) (.nd 193 (.lf 192 Tryz.f192) (.lf 193 Tryz.f193)))))) (.nd 208 (.nd 201 (.nd 197 (.nd 195 (.lf 194 Tryz.f194) (.nd 196 (.lf 195 Tryz.f195) (.lf 196 Tryz.f196))) (.nd 199 (.nd 198 (.lf 197 Tryz.f197) (.lf 198 Tryz.f198)) (.nd 200 (.lf 199 Tryz.f199) (.lf 200 Tryz.f200)))) (.nd 204 (.nd 202 (.lf 201 Tryz.f201) (.nd 203 (.lf 202 Tryz.f202) (.lf 203 Tryz.f203))) (.nd 206 (.nd 205 (.lf 204 Tryz.f204) (.lf 205 Tryz.f205)) (.nd 207 (.lf 206 Tryz.f206) (.lf 207 Tryz.f207))))) (.nd 215 (.nd 211 (.nd 209 (.lf 208 Tryz.f208) (.nd 210 (.lf 209 Tryz.f209) (.lf 210 Tryz.f210))) (.nd 213 (.nd 212 (.lf 211 Tryz.f211) (.lf 212 Tryz.f212)) (.nd 214 (.lf 213 Tryz.f213) (.lf 214 Tryz.f214)))) (.nd 218 (.nd 216 (.lf 215 Tryz.f215) (.nd 217 (.lf 216 Tryz.f216) (.lf 217 Tryz.f217))) (.nd 220 (.nd 219 (.lf 218 Tryz.f218) (.lf 219 Tryz.f219)) (.nd 221 (.lf 220 Tryz.f220) (.lf 221 Tryz.f221))))))))) (.nd 333 (.nd 277 (.nd 249 (.nd 235 (.nd 228 (.nd 225 (.nd 223 (.lf 222 Tryz.f222) (.nd 224 (.lf 223 Tryz.f223) (.lf 224 Tryz.f224))) (.nd 226 (.lf 225 Tryz.f225) (.nd 227 (.lf 226 Tryz.f226) (.lf 227 Tryz.f227)))) (.nd 231 (.nd 229 (.lf 228 Tryz.f228) (.nd 230 (.lf 229 Tryz.f229) (.lf 230 Tryz.f230))) (.nd 233 (.nd 232 (.lf 231 Tryz.f231) (.lf 232 Tryz.f232)) (.nd 234 (.lf 233 Tryz.f233) (.lf 234 Tryz.f234))))) (.nd 242 (.nd 238 (.nd 236 (.lf 235 Tryz.f235) (.nd 237 (.lf 236 Tryz.f236) (.lf 237 Tryz.f237))) (.nd 240 (.nd 239 (.lf 238 Tryz.f238) (.lf 239 Tryz.f239)) (.nd 241 (.lf 240 Tryz.f240) (.lf 241 Tryz.f241)))) (.nd 245 (.nd 243 (.lf 242 Tryz.f242) (.nd 244 (.lf 243 Tryz.f243) (.lf 244 Tryz.f244))) (.nd 247 (.nd 246 (.lf 245 Tryz.f245) (.lf 246 Tryz.f246)) (.nd 248 (.lf 247 Tryz.f247) (.lf 248 Tryz.f248)))))) (.nd 263 (.nd 256 (.nd 252 (.nd 250 (.lf 249 Tryz.f249) (.nd 251 (.lf 250 Tryz.f250) (.lf 251 Tryz.f251))) (.nd 254 (.nd 253 (.lf 252 Tryz.f252) (.lf 253 Tryz.f253)) (.nd 255 (.lf 254 Tryz.f254) (.lf 255 Tryz.f255)))) (.nd 259 (.nd 257 (.lf 256 Tryz.f256) (.nd 258 (.lf 257 Tryz.f257) (.lf 258 Tryz.f258))) (.nd 261 (.nd 260 (.lf 259 Tryz.f259) (.lf 260 Tryz.f260)) (.nd 262 (.lf 261 Tryz.f261) (.lf 262 Tryz.f262))))) (.nd 270 (.nd 266 (.nd 264 (.lf 263 Tryz.f263) (.nd 265 (.lf 264 Tryz.f264) (.lf 265 Tryz.f265))) (.nd 268 (.nd 267 (.lf 266 Tryz.f266) (.lf 267 Tryz.f267)) (.nd 269 (.lf 268 Tryz.f268) (.lf 269 Tryz.f269)))) (.nd 273 (.nd 271 (.lf 270 Tryz.f270) (.nd 272 (.lf 271 Tryz.f271) (.lf 272 Tryz.f272))) (.nd 275 (.nd 274 (.lf 273 Tryz.f273) (.lf 274 Tryz.f274)) (.nd 276 (.lf 275 Tryz.f275) (.lf 276 Tryz.f276))))))) (.nd 305 (.nd 291 (.nd 284 (.nd 280 (.nd 278 (.lf 277 Tryz.f277) (.nd 279 (.lf 278 Tryz.f278) (.lf 279 Tryz.f279))) (.nd 282 (.nd 281 (.lf 280 Tryz.f280) (.lf 281 Tryz.f281)) (.nd 283 (.lf 282 Tryz.f282) (.lf 283 Tryz.f283)))) (.nd 287 (.nd 285 (.lf 284 Tryz.f284) (.nd 286 (.lf 285 Tryz.f285) (.lf 286 Tryz.f286))) (.nd 289 (.nd 288 (.lf 287 Tryz.f287) (.lf 288 Tryz.f288)) (.nd 290 (.lf 289 Tryz.f289) (.lf 290 Tryz.f290))))) (.nd 298 (.nd 294 (.nd 292 (.lf 291 Tryz.f291) (.nd 293 (.lf 292 Tryz.f292) (.lf 293 Tryz.f293))) (.nd 296 (.nd 295 (.lf 294 Tryz.f294) (.lf 295 Tryz.f295)) (.nd 297 (.lf 296 Tryz.f296) (.lf 297 Tryz.f297)))) (.nd 301 (.nd 299 (.lf 298 Tryz.f298) (.nd 300 (.lf 299 Tryz.f299) (.lf 300 Tryz.f300))) (.nd 303 (.nd 302 (.lf 301 Tryz.f301) (.lf 302 Tryz.f302)) (.nd 304 (.lf 303 Tryz.f303) (.lf 304 Tryz.f304)))))) (.nd 319 (.nd 312 (.nd 308 (.nd 306 (.lf 305 Tryz.f305) (.nd 307 (.lf 306 Tryz.f306) (.lf 307 Tryz.f307))) (.nd 310 (.nd 309 (.lf 308 Tryz.f308) (.lf 309 Tryz.f309)) (.nd 311 (.lf 310 Tryz.f310) (.lf 311 Tryz.f311)))) (.nd 315 (.nd 313 (.lf 312 Tryz.f312) (.nd 314 (.lf 313 Tryz.f313) (.lf 314 Tryz.f314))) (.nd 317 (.nd 316 (.lf 315 Tryz.f315) (.lf 316 Tryz.f316)) (.nd 318 (.lf 317 Tryz.f317) (.lf 318 Tryz.f318))))) (.nd 326 (.nd 322 (.nd 320 (.lf 319 Tryz.f319) (.nd 321 (.lf 320 Tryz.f320) (.lf 321 Tryz.f321))) (.nd 324 (.nd 323 (.lf 322 Tryz.f322) (.lf 323 Tryz.f323)) (.nd 325 (.lf 324 Tryz.f324) (.lf 325 Tryz.f325)))) (.nd 329 (.nd 327 (.lf 326 Tryz.f326) (.nd 328 (.lf 327 Tryz.f327) (.lf 328 Tryz.f328))) (.nd 331 (.nd 330 (.lf 329 Tryz.f329) (.lf 330 Tryz.f330)) (.nd 332 (.lf 331 Tryz.f331) (.lf 332 Tryz.f332)))))))) (.nd 388 (.nd 360 (.nd 346 (.nd 339 (.nd 336 (.nd 334 (.lf 333 Tryz.f333) (.nd 335 (.lf 334 Tryz.f334) (.lf 335 Tryz.f335))) (.nd 337 (.lf 336 Tryz.f336) (.nd 338 (.lf 337 Tryz.f337) (.lf 338 Tryz.f338)))) (.nd 342 (.nd 340 (.lf 339 Tryz.f339) (.nd 341 (.lf 340 Tryz.f340) (.lf 341 Tryz.f341))) (.nd 344 (.nd 343 (.lf 342 Tryz.f342) (.lf 343 Tryz.f343)) (.nd 345 (.lf 344 Tryz.f344) (.lf 345 Tryz.f345))))) (.nd 353 (.nd 349 (.nd 347 (.lf 346 Tryz.f346) (.nd 348 (.lf 347 Tryz.f347) (.lf 348 Tryz.f348))) (.nd 351 (.nd 350 (.lf 349 Tryz.f349) (.lf 350 Tryz.f350)) (.nd 352 (.lf 351 Tryz.f351) (.lf 352 Tryz.f352)))) (.nd 356 (.nd 354 (.lf 353 Tryz.f353) (.nd 355 (.lf 354 Tryz.f354) (.lf 355 Tryz.f355))) (.nd 358 (.nd 357 (.lf 356 Tryz.f356) (.lf 357 Tryz.f357)) (.nd 359 (.lf 358 Tryz.f358) (.lf 359 Tryz.f359)))))) (.nd 374 (.nd 367 (.nd 363 (.nd 361 (.lf 360 Tryz.f360) (.nd 362 (.lf 361 Tryz.f361) (.lf 362 Tryz.f362))) (.nd 365 (.nd 364 (.lf 363 Tryz.f363) (.lf 364 Tryz.f364)) (.nd 366 (.lf 365 Tryz.f365) (.lf 366 Tryz.f366)))) (.nd 370 (.nd 368 (.lf 367 Tryz.f367) (.nd 369 (.lf 368 Tryz.f368) (.lf 369 Tryz.f369))) (.nd 372 (.nd 371 (.lf 370 Tryz.f370) (.lf 371 Tryz.f371)) (.nd 373 (.lf 372 Tryz.f372) (.lf 373 Tryz.f373))))) (.nd 381 (.nd 377 (.nd 375 (.lf 374 Tryz.f374) (.nd 376 (.lf 375 Tryz.f375) (.lf 376 Tryz.f376))) (.nd 379 (.nd 378 (.lf 377 Tryz.f377) (.lf 378 Tryz.f378)) (.nd 380 (.lf 379 Tryz.f379) (.lf 380 Tryz.f380)))) (.nd 384 (.nd 382 (.lf 381 Tryz.f381) (.nd 383 (.lf 382 Tryz.f382) (.lf 383 Tryz.f383))) (.nd 386 (.nd 385 (.lf 384 Tryz.f384) (.lf 385 Tryz.f385)) (.nd 387 (.lf 386 Tryz.f386) (.lf 387 Tryz.f387))))))) (.nd 416 (.nd 402 (.nd 395 (.nd 391 (.nd 389 (.lf 388 Tryz.f388) (.nd 390 (.lf 389 Tryz.f389) (.lf 390 Tryz.f390))) (.nd 393 (.nd 392 (.lf 391 Tryz.f391) (.lf 392 Tryz.f392)) (.nd 394 (.lf 393 Tryz.f393) (.lf 394 Tryz.f394)))) (.nd 398 (.nd 396 (.lf 395 Tryz.f395) (.nd 397 (.lf 396 Tryz.f396) (.lf 397 Tryz.f397))) (.nd 400 (.nd 399 (.lf 398 Tryz.f398) (.lf 399 Tryz.f399)) (.nd 401 (.lf 400 Tryz.f400) (.lf 401 Tryz.f401))))) (.nd 409 (.nd 405 (.nd 403 (.lf 402 Tryz.f402) (.nd 404 (.lf 403 Tryz.f403) (.lf 404 Tryz.f404))) (.nd 407 (.nd 406 (.lf 405 Tryz.f405) (.lf 406 Tryz.f406)) (.nd 408 (.lf 407 Tryz.f407) (.lf 408 Tryz.f408)))) (.nd 412 (.nd 410 (.lf 409 Tryz.f409) (.nd 411 (.lf 410 Tryz.f410) (.lf 411 Tryz.f411))) (.nd 414 (.nd 413 (.lf 412 Tryz.f412) (.lf 413 Tryz.f413)) (.nd 415 (.lf 414 Tryz.f414) (.lf 415 Tryz.f415)))))) (.nd 430 (.nd 423 (.nd 419 (.nd 417 (.lf 416 Tryz.f416) (.nd 418 (.lf 417 Tryz.f417) (.lf 418 Tryz.f418))) (.nd 421 (.nd 420 (.lf 419 Tryz.f419) (.lf 420 Tryz.f420)) (.nd 422 (.lf 421 Tryz.f421) (.lf 422 Tryz.f422)))) (.nd 426 (.nd 424 (.lf 423 Tryz.f423) (.nd 425 (.lf 424 Tryz.f424) (.lf 425 Tryz.f425))) (.nd 428 (.nd 427 (.lf 426 Tryz.f426) (.lf 427 Tryz.f427)) (.nd 429 (.lf 428 Tryz.f428) (.lf 429 Tryz.f429))))) (.nd 437 (.nd 433 (.nd 431 (.lf 430 Tryz.f430) (.nd 432 (.lf 431 Tryz.f431) (.lf 432 Tryz.f432))) (.nd 435 (.nd 434 (.lf 433 Tryz.f433) (.lf 434 Tryz.f434)) (.nd 436 (.lf 435 Tryz.f435) (.lf 436 Tryz.f436)))) (.nd 440 (.nd 438 (.lf 437 Tryz.f437) (.nd 439 (.lf 438 Tryz.f438) (.lf 439 Tryz.f439))) (.nd 442 (.nd 441 (.lf 440 Tryz.f440) (.lf 441 Tryz.f441)) (.nd 443 (.lf 442 Tryz.f442) (.lf 443 Tryz.f443))))))))))
end
end Go.Proofs.YtdkioifmieamoaaGreatDoor
namespace Go.Proofs.YtdkioifmieamoaaGreatDoor
open Go.Shelf
def sx219_ren : Go.Shelf.Ren := ⟨fun | 219 => 317 | 217 => 334 | 225 => 335 | 224 => 336 | 267 => 337 | 266 => 350 | 314 => 351 | n => n, fun | 9 => 9 | 3 => 3 | 4 => 4 | 5 => 5 | 46 => 290 | 146 => 453 | 51 => 68 | n => n, fun | 1 => 3 | n => n⟩
theorem sx219 : Go.Proofs.Lays.n219 Tryz.prog sx219_ren := {
  mixed := by kernel_rfl
  f217 := Tryz.func334.trans (congrArg some (by kernel_rfl))
  f219 := Tryz.func317.trans (congrArg some (by kernel_rfl))
  f224 := Tryz.func336.trans (congrArg some (by kernel_rfl))
  f225 := Tryz.func335.trans (congrArg some (by kernel_rfl))
  f266 := Tryz.func350.trans (congrArg some (by kernel_rfl))
  f267 := Tryz.func337.trans (congrArg some (by kernel_rfl))
  f314 := Tryz.func351.trans (congrArg some (by kernel_rfl))
  t3 := Tryz.underlying3
  a3 := Tryz.isAgg3
  z3 := Tryz.sizeOf3
  v3 := Tryz.zeroValue3
  t4 := Tryz.underlying4
  a4 := Tryz.isAgg4
  z4 := Tryz.sizeOf4
  v4 := Tryz.zeroValue4
  t5 := Tryz.underlying5
  a5 := Tryz.isAgg5
  z5 := Tryz.sizeOf5
  v5 := Tryz.zeroValue5
  t9 := Tryz.underlying9
  a9 := Tryz.isAgg9
  z9 := Tryz.sizeOf9
  v9 := Tryz.zeroValue9
  t46 := Tryz.underlying290
  a46 := Tryz.isAgg290
  z46 := Tryz.sizeOf290
  v46 := Tryz.zeroValue290
  t51 := Tryz.underlying68
  a51 := Tryz.isAgg68
  z51 := Tryz.sizeOf68
  v51 := Tryz.zeroValue68
  t146 := Tryz.underlying453
  a146 := Tryz.isAgg453
  z146 := Tryz.sizeOf453
  v146 := Tryz.zeroValue453
  g1 := by kernel_rfl }
end Go.Proofs.YtdkioifmieamoaaGreatDoor
namespace Go.Proofs.YtdkioifmieamoaaGreatDoor
set_option linter.unusedVariables false
noncomputable section
/- internal/stringslite.Index: where a text stands in another one first. -/
def preB (p l : List Nat) : Bool := List.rec (motive := fun _ => List Nat → Bool) (fun _ => true) (fun a _ ih l => List.rec (motive := fun _ => Bool) false (fun b r _ => bq (Nat.beq a b) (ih r) false) l) p l
def idxStr (p l : List Nat) : Nat → Int := List.rec (motive := fun _ => Nat → Int) (fun i => bq (preB p []) (.ofNat i) (.negSucc 0)) (fun a r ih i => bq (preB p (a :: r)) (.ofNat i) (ih (Nat.succ i))) l
def idxO0 (args : List AV) (h : AH) : Option (AV × AH) :=
  match args with
  | [.str s, .str p] => bq (Nat.ble (flen s) 4294967280) (some (.int 9223372036854775807 (idxStr p s 0), h)) none
  | _ => none
/- strings.Builder -/
def cellAt (h : AH) (b o : Nat) : Option AV :=
  match hget h b with
  | some (.cells cs _) => fget cs o
  | _ => none
def cellSet (h : AH) (b o : Nat) (v : AV) : Option AH :=
  match hget h b with
  | some (.cells cs y) => bq (Nat.blt o (flen cs)) (some (fset (some (.cells (fset v cs o) y)) h b)) none
  | _ => none
/-- A type that begins with one of these (or this itself). -/
def bldW : Nat := 139
def copyO0 (args : List AV) (h : AH) : Option (AV × AH) :=
  match args with
  | [.pto b o] => bq (Nat.beq o 0) (match hget h b with
    | some (.cells cs y) => bq (or (and (Nat.beq y (137 + 1)) (Nat.ble 2 (flen cs))) (and (Nat.beq y (bldW + 1)) (Nat.ble 4 (flen cs)))) (match fget cs 0 with
      | some .nil => some (.tup [], fset (some (.cells (fset (.pto b 0) cs 0) y)) h b)
      | some (.pto b' o') => bq (and (Nat.beq b b') (Nat.beq 0 o')) (some (.tup [], h)) none
      | _ => none) none
    | _ => none) none
  | _ => none
def strO0 (args : List AV) (h : AH) : Option (AV × AH) :=
  match args with
  | [.pto b o] => bq (Nat.beq o 0) (match hget h b with
    | some (.cells cs _) => match fget cs 1 with
      | some .nils => some (.str [], h)
      | some (.slo b' o' n _ z _) => bq (and (and (Nat.beq o' 0) (Nat.beq z 1)) (and (Nat.blt 0 n) (Nat.ble n 4294967280))) (match hget h b' with
        | some (.cells cs' y') => bq (and (Nat.beq y' (5 + 1)) (Nat.ble n (flen cs'))) (obind (bytesOf (ftake n cs')) fun x => some (.str x, fset none h b')) none
        | _ => none) none
      | _ => none
    | _ => none) none
  | _ => none
/- tables -/
def ascZ : List Int := (List.range 256).map fun c => if [9,10,11,12,13,32].contains c then 1 else 0
def asc0 : List AV := ascZ.map fun n => .int 255 n
def gl0 (mx : Int) (g : Nat) : Option (List AV) := bq (Nat.beq g 0) (some asc0) (bq (Nat.beq g 3) (some [.int 9223372036854775807 mx]) none)
def ext0 (f : Nat) : Option (List AV → AH → Option (AV × AH)) := bq (Nat.beq f 287) (some (fun args h => obind (addX args) fun v => some (v, h))) (bq (Nat.beq f 350) (some (fun args h => obind (idxBX args) fun v => some (v, h))) (bq (Nat.beq f 196) (some (fun args h => obind (sameX args) fun v => some (v, h))) (bq (Nat.beq f 54) (some (atLoadX 18446744073709551615)) (bq (Nat.beq f 124) (some (atAddX 18446744073709551615)) (bq (Nat.beq f 34) (some (atLoadX 9223372036854775807)) (bq (Nat.beq f 55) (some (atAddX 9223372036854775807)) (bq (Nat.beq f 35) (some (atLoadX 2147483647)) (bq (Nat.beq f 58) (some (atAddX 2147483647)) (bq (Nat.beq f 199) (some (atCasX 2147483647)) (bq (Nat.beq f 89) (some (atLoadX 4294967295)) (bq (Nat.beq f 151) (some (atStoreX 4294967295)) (none))))))))))))
def orc0 (f : Nat) : Option (Run → List AV → AH → Option (AV × AH)) := bq (Nat.beq f 317) (some (fun _ => idxO0)) (bq (Nat.beq f 144) (some (fun _ => copyO0)) (bq (Nat.beq f 53) (some (fun _ => strO0)) (bq (Nat.beq f 57) (some slowO) (none))))
def fzL : List Nat := [59, 93, 211, 99, 98, 100, 60, 106, 61, 160, 161, 341, 323, 321, 107]
def trL : List Nat := [154, 157, 262, 96, 68, 45, 112, 175, 107, 29, 43, 222, 224, 271, 41, 64, 15, 14, 105, 62, 320, 165, 69, 67, 194, 245, 363, 377, 359, 370, 368, 343, 365, 378, 342, 325, 327, 341]
def memN (f : Nat) (l : List Nat) : Bool := List.rec (motive := fun _ => Bool) false (fun a _ ih => bq (Nat.beq f a) true ih) l
def C0 (mx : Int) : Cx := { ty := bget tyT, fn := bget fnT, gl := gl0 mx, orc := orc0, ext := ext0, memo := fun _ _ => none, sq := fun _ => none, fz := fun f => memN f fzL, tr := fun f => memN f trL }
end
end Go.Proofs.YtdkioifmieamoaaGreatDoor
namespace Go.Proofs.YtdkioifmieamoaaGreatDoor
set_option linter.unusedSimpArgs false
set_option linter.unusedVariables false
set_option linter.unnecessarySimpa false
set_option maxRecDepth 100000 in
theorem tyAll : btAll (fun t ti => and (tyChk Tryz.prog t ti) (flChk Tryz.prog t ti)) tyT = true := by decide +kernel
def fnP (f : Nat) (fn : Func) : Prop := Tryz.prog.funcs[f]? = some fn ∧ (fn.name == "runtime.NumGoroutine") = false
set_option maxRecDepth 100000 in
theorem fnAll : BTAll fnP fnT := by
  unfold fnT
  repeat' (first | exact And.intro (by kernel_rfl) (by kernel_rfl) | refine And.intro ?_ ?_)
theorem row0 : RowOf Tryz.prog 287 add64Entry := ⟨_, Tryz.func287, by kernel_rfl, by kernel_rfl, by kernel_rfl, by kernel_rfl⟩
theorem row1 : RowOf Tryz.prog 350 Extern.BytealgIndexByte.indexByte := ⟨_, Tryz.func350, by kernel_rfl, by kernel_rfl, by kernel_rfl, by kernel_rfl⟩
theorem row2 : RowOf Tryz.prog 196 Extern.AbiNoEscape.same := ⟨_, Tryz.func196, by kernel_rfl, by kernel_rfl, by kernel_rfl, by kernel_rfl⟩
theorem row3 : RowOf Tryz.prog 54 (Extern.Atomic.loadT (.int .u64)) := ⟨_, Tryz.func54, by kernel_rfl, by kernel_rfl, by kernel_rfl, by kernel_rfl⟩
theorem row4 : RowOf Tryz.prog 124 (Extern.Atomic.update (Op.intArith .add) .u64 true) := ⟨_, Tryz.func124, by kernel_rfl, by kernel_rfl, by kernel_rfl, by kernel_rfl⟩
theorem row5 : RowOf Tryz.prog 34 (Extern.Atomic.loadT (.int .i64)) := ⟨_, Tryz.func34, by kernel_rfl, by kernel_rfl, by kernel_rfl, by kernel_rfl⟩
theorem row6 : RowOf Tryz.prog 55 (Extern.Atomic.update (Op.intArith .add) .i64 true) := ⟨_, Tryz.func55, by kernel_rfl, by kernel_rfl, by kernel_rfl, by kernel_rfl⟩
theorem row7 : RowOf Tryz.prog 35 (Extern.Atomic.loadT (.int .i32)) := ⟨_, Tryz.func35, by kernel_rfl, by kernel_rfl, by kernel_rfl, by kernel_rfl⟩
theorem row8 : RowOf Tryz.prog 58 (Extern.Atomic.update (Op.intArith .add) .i32 true) := ⟨_, Tryz.func58, by kernel_rfl, by kernel_rfl, by kernel_rfl, by kernel_rfl⟩
theorem row9 : RowOf Tryz.prog 199 (Extern.Atomic.casT (.int .i32)) := ⟨_, Tryz.func199, by kernel_rfl, by kernel_rfl, by kernel_rfl, by kernel_rfl⟩
theorem row10 : RowOf Tryz.prog 89 (Extern.Atomic.loadT (.int .u32)) := ⟨_, Tryz.func89, by kernel_rfl, by kernel_rfl, by kernel_rfl, by kernel_rfl⟩
theorem row11 : RowOf Tryz.prog 151 Extern.Atomic.storeT := ⟨_, Tryz.func151, by kernel_rfl, by kernel_rfl, by kernel_rfl, by kernel_rfl⟩
theorem cx_ext {mx : Int} : ∀ f g, (C0 mx).ext f = some g → ∀ args h v h', g args h = some (v, h') → ∀ ok w ρ us, Inv (C0 mx) ok w ρ h → VL ok w args ρ us → ∃ u w' ok' ρ', (callFunc f us.toArray).run Tryz.prog w = .ok (.value u) w' ∧ Ext ok w ρ h ok' w' ρ' h' ∧ Inv (C0 mx) ok' w' ρ' h' ∧ V ok' w' v ρ' u := by
  intro f g e
  have e : bq (Nat.beq f 287) _ (bq (Nat.beq f 350) _ (bq (Nat.beq f 196) _ (bq (Nat.beq f 54) _ (bq (Nat.beq f 124) _ (bq (Nat.beq f 34) _ (bq (Nat.beq f 55) _ (bq (Nat.beq f 35) _ (bq (Nat.beq f 58) _ (bq (Nat.beq f 199) _ (bq (Nat.beq f 89) _ (bq (Nat.beq f 151) _ (none)))))))))))) = some g := e
  cases h0 : Nat.beq f 287 with
  | true =>
    rw [h0, bq_true] at e
    cases e
    rw [Nat.eq_of_beq_eq_true h0]
    exact addX_ok row0
  | false =>
    rw [h0, bq_false] at e
    cases h1 : Nat.beq f 350 with
    | true =>
      rw [h1, bq_true] at e
      cases e
      rw [Nat.eq_of_beq_eq_true h1]
      exact idxBX_ok row1
    | false =>
      rw [h1, bq_false] at e
      cases h2 : Nat.beq f 196 with
      | true =>
        rw [h2, bq_true] at e
        cases e
        rw [Nat.eq_of_beq_eq_true h2]
        exact sameX_ok row2
      | false =>
        rw [h2, bq_false] at e
        cases h3 : Nat.beq f 54 with
        | true =>
          rw [h3, bq_true] at e
          cases e
          rw [Nat.eq_of_beq_eq_true h3]
          exact atLoad_ok (k := .u64) row3
        | false =>
          rw [h3, bq_false] at e
          cases h4 : Nat.beq f 124 with
          | true =>
            rw [h4, bq_true] at e
            cases e
            rw [Nat.eq_of_beq_eq_true h4]
            exact atAdd_ok (k := .u64) (wrapK .u64) row4
          | false =>
            rw [h4, bq_false] at e
            cases h5 : Nat.beq f 34 with
            | true =>
              rw [h5, bq_true] at e
              cases e
              rw [Nat.eq_of_beq_eq_true h5]
              exact atLoad_ok (k := .i64) row5
            | false =>
              rw [h5, bq_false] at e
              cases h6 : Nat.beq f 55 with
              | true =>
                rw [h6, bq_true] at e
                cases e
                rw [Nat.eq_of_beq_eq_true h6]
                exact atAdd_ok (k := .i64) (wrapK .i64) row6
              | false =>
                rw [h6, bq_false] at e
                cases h7 : Nat.beq f 35 with
                | true =>
                  rw [h7, bq_true] at e
                  cases e
                  rw [Nat.eq_of_beq_eq_true h7]
                  exact atLoad_ok (k := .i32) row7
                | false =>
                  rw [h7, bq_false] at e
                  cases h8 : Nat.beq f 58 with
                  | true =>
                    rw [h8, bq_true] at e
                    cases e
                    rw [Nat.eq_of_beq_eq_true h8]
                    exact atAdd_ok (k := .i32) (wrapK .i32) row8
                  | false =>
                    rw [h8, bq_false] at e
                    cases h9 : Nat.beq f 199 with
                    | true =>
                      rw [h9, bq_true] at e
                      cases e
                      rw [Nat.eq_of_beq_eq_true h9]
                      exact atCas_ok (k := .i32) row9
                    | false =>
                      rw [h9, bq_false] at e
                      cases h10 : Nat.beq f 89 with
                      | true =>
                        rw [h10, bq_true] at e
                        cases e
                        rw [Nat.eq_of_beq_eq_true h10]
                        exact atLoad_ok (k := .u32) row10
                      | false =>
                        rw [h10, bq_false] at e
                        cases h11 : Nat.beq f 151 with
                        | true =>
                          rw [h11, bq_true] at e
                          cases e
                          rw [Nat.eq_of_beq_eq_true h11]
                          exact atStore_ok (k := .u32) row11
                        | false =>
                          rw [h11, bq_false] at e
                          cases e
theorem cx_ok {mx : Int} (orc : ∀ f g, orc0 f = some g → ∀ run, RunOk Tryz.prog (C0 mx) run → ∀ args h r h', g run args h = some (r, h') → RunAt Tryz.prog (C0 mx) f args h r h') : CxOk Tryz.prog (C0 mx) := by
  have ty : ∀ t ti, (C0 mx).ty t = some ti → tyChk Tryz.prog t ti = true ∧ flChk Tryz.prog t ti = true := fun t ti h => by
    have := btAll_ok tyAll t ti h
    rwa [Bool.and_eq_true] at this
  exact ⟨fun t ti h => (tyChk_ok (ty t ti h).1).1, fun t ti h => (tyChk_ok (ty t ti h).1).2, fun t ti h => flChk_ok (ty t ti h).2, fun f fn h => BTAll.get fnAll f fn h, cx_ext, fun f args v e => (by cases e), orc, by kernel_rfl, fun g q e => (by cases e)⟩
end Go.Proofs.YtdkioifmieamoaaGreatDoor
namespace Go.Proofs.YtdkioifmieamoaaGreatDoor
set_option linter.unusedSimpArgs false
set_option linter.unusedVariables false
set_option linter.unnecessarySimpa false
open Go.Shelf
theorem preB_eq : ∀ (p l : List UInt8), preB (p.map UInt8.toNat) (l.map UInt8.toNat) = p.isPrefixOf l
  | [], l => by cases l <;> rfl
  | a :: p, [] => rfl
  | a :: p, b :: l => by
    show bq (Nat.beq a.toNat b.toNat) (preB (p.map UInt8.toNat) (l.map UInt8.toNat)) false = _
    rw [preB_eq p l]
    by_cases h : a = b
    · subst h; rw [Nat.beq_refl]; simp [bq, List.isPrefixOf]
    · have h1 : Nat.beq a.toNat b.toNat = false := by
        rw [Bool.eq_false_iff]
        intro hh
        exact h (UInt8.toNat_inj.1 (Nat.eq_of_beq_eq_true hh))
      rw [h1, bq_false]
      simp [List.isPrefixOf, h]
theorem idxStr_eq (p : List UInt8) : ∀ (l : List UInt8) (i : Nat), idxStr (p.map UInt8.toNat) (l.map UInt8.toNat) i = if Lib.index l p = -1 then -1 else Lib.index l p + i
  | [], i => by
    show bq (preB (p.map UInt8.toNat) (([] : List UInt8).map UInt8.toNat)) (Int.ofNat i) (Int.negSucc 0) = _
    rw [preB_eq]
    cases p with
    | nil => simp [Lib.index, List.isPrefixOf, bq]
    | cons a p => simp [Lib.index, List.isPrefixOf, bq]
  | a :: l, i => by
    show bq (preB (p.map UInt8.toNat) ((a :: l).map UInt8.toNat)) (Int.ofNat i) (idxStr (p.map UInt8.toNat) (l.map UInt8.toNat) (i + 1)) = _
    rw [preB_eq, idxStr_eq p l (i + 1)]
    have hge := Lib.index_ge l p
    cases h : p.isPrefixOf (a :: l) with
    | true =>
      have e1 : Lib.index (a :: l) p = 0 := by simp [Lib.index, h]
      rw [bq_true, e1]
      simp
    | false =>
      rw [bq_false]
      by_cases h3 : Lib.index l p = -1
      · have e1 : Lib.index (a :: l) p = -1 := by simp [Lib.index, h, h3]
        rw [e1, if_pos h3, if_pos rfl]
      · have e1 : Lib.index (a :: l) p = Lib.index l p + 1 := by simp [Lib.index, h, h3]
        rw [e1, if_neg h3, if_neg (by omega)]
        push_cast
        omega
theorem maxLen_cell {mx : Int} {ok : Nat → Prop} {w : World} {ρ : Rho} {h : AH} (I : Inv (C0 mx) ok w ρ h) : w.cell? ⟨3, 0, none⟩ = some (.int .i64 mx) := by
  obtain ⟨_, h2⟩ := I.gl 3 [.int 9223372036854775807 mx] rfl
  simp only [VAt] at h2
  obtain ⟨⟨u, h3, h4⟩, _⟩ := h2
  simp only [V] at h4
  obtain ⟨k, h5, rfl⟩ := h4
  cases k <;> first | exact h3 | (exact absurd h5 (by decide))
theorem index_orc {mx : Int} {args : List AV} {h : AH} {r : AV} {h' : AH} (e : idxO0 args h = some (r, h')) : RunAt Tryz.prog (C0 mx) 317 args h r h' := by
  refine ⟨⟨_, Tryz.func317, by kernel_rfl, by kernel_rfl⟩, fun ok w ρ us I hv => ?_⟩
  unfold idxO0 at e
  split at e
  · rename_i s p
    obtain ⟨e1, e2⟩ := bq_some e
    cases e2
    have e1 := Nat.le_of_ble_eq_true e1
    rw [flen_eq] at e1
    simp only [VL] at hv
    obtain ⟨u1, _, rfl, v1, u2, _, rfl, v2, rfl⟩ := hv
    simp only [V] at v1 v2
    obtain ⟨S, rfl, rfl⟩ := v1
    obtain ⟨Q, rfl, rfl⟩ := v2
    have hs : S.size < 4294967281 := by
      have : (S.data.toList.map UInt8.toNat).length = S.size := by simp
      omega
    refine (Any.stringslite_Index sx219 S Q mx w hs (maxLen_cell I)).mono ?_
    rintro en w' ⟨rfl, rfl⟩
    refine ⟨_, ok, ρ, rfl, Ext.refl _ _ _ _, I, ?_⟩
    simp only [V]
    refine ⟨.i64, rfl, ?_⟩
    rw [idxStr_eq]
    split
    · next h => rw [h]
    · simp
  · cases e
end Go.Proofs.YtdkioifmieamoaaGreatDoor
namespace Go.Proofs.YtdkioifmieamoaaGreatDoor
set_option linter.unusedSimpArgs false
set_option linter.unusedVariables false
set_option linter.unnecessarySimpa false
open Go.Shelf
theorem row_many {P : Program} {F : TypeId → Bool} {e : TypeId} {d n : Nat} (hn : 1 ≤ n) : rowAt P F d e n 0 1 = rowAt P F d e 1 0 1 := by
  cases d with
  | zero => rfl
  | succ d =>
    have h1 : (0 + 1 ≤ n) = True := by simp [hn]
    have h2 : (0 < n) = True := by simp; omega
    unfold rowAt
    simp [h1, h2, hn]
theorem lies_here {P : Program} {e u : TypeId} {d n : Nat} (h : liesAt P d e 1 0 u 1 = true) (hu : ∀ m u', P.underlying u ≠ some (.array m u')) (hn : 1 ≤ n) : liesAt P d e n 0 u 1 = true := by
  cases d with
  | zero => exact h
  | succ d =>
    unfold liesAt at h ⊢
    rw [row_many hn]
    split at h
    · rename_i m u' c; exact absurd c (hu m u')
    · exact h
theorem lies_b : liesAt Tryz.prog Tryz.prog.depth 137 1 0 137 1 = true := by kernel_rfl
theorem lies_w : liesAt Tryz.prog Tryz.prog.depth bldW 1 0 137 1 = true := by kernel_rfl
theorem not_arr : ∀ m u', Tryz.prog.underlying 137 ≠ some (.array m u') := fun m u' c => by
  rw [Tryz.underlying137] at c; cases c
theorem cells_w : (Nat.blt 0 (Tryz.prog.cellsOf bldW) && Nat.ble (Tryz.prog.cellsOf bldW) 4) = true := by kernel_rfl
theorem info_bld : (Tryz.prog.info? 137).map (·.size) = some 2 := by kernel_rfl
theorem bld_cells : Tryz.prog.cellsOf 137 = 2 := by kernel_rfl
theorem le4 {c : Nat} (h : (Nat.blt 0 c && Nat.ble c 4) = true) : 0 < c ∧ c ≤ 4 := by
  rw [Bool.and_eq_true] at h
  exact ⟨Nat.le_of_ble_eq_true h.1, Nat.le_of_ble_eq_true h.2⟩
theorem cells_w' : 0 < Tryz.prog.cellsOf bldW ∧ Tryz.prog.cellsOf bldW ≤ 4 := le4 cells_w
theorem setCell_row (w : World) (r j : Nat) (arr : Array Value) (e : TypeId) (fr : Nat × Nat) (v : Value) (h : w.heap[r]? = some (.cells arr e fr)) : w.setCell ⟨r, j, none⟩ v = w.setRow r (arr.setIfInBounds j v) := by
  unfold World.setCell World.setRow
  congr 1
  apply Array.ext_getElem?
  intro i
  simp only [Array.getElem?_modify]
  by_cases hi : r = i
  · subst hi; simp [h]
  · simp [hi]
set_option maxHeartbeats 1000000 in
set_option maxRecDepth 100000 in
theorem copyCheck_fresh (w : World) (r n : Nat) (e : TypeId) (hsh : w.shape? r = some (e, n)) (hn : 2 ≤ n) (hlies : liesAt Tryz.prog Tryz.prog.depth e (n / Tryz.prog.cellsOf e) 0 137 1 = true) (h0 : w.cell? ⟨r, 0, none⟩ = some (.pointer none)) (hf : w.frozen? ⟨r, 0, none⟩ = false) :
    Calls Tryz.prog 144 #[.pointer (some ⟨r, 0, none⟩)] w fun e w' => e = .returned (.tuple #[]) ∧ w' = w.setCell ⟨r, 0, none⟩ (.pointer (some ⟨r, 0, none⟩)) := by
  obtain ⟨j, hj, hjs⟩ := Option.map_eq_some_iff.1 info_bld
  go_enter Tryz.func144, Tryz.ntmps144
  go_wp2
  rw [Lib.run_to_unsafe w ⟨r, 0, none⟩ Tryz.underlying135 Tryz.underlying367 hj (by rw [hjs]; decide) hsh (by show 0 < n; omega)]
  simp only [Result.andThen]
  rw [Oper.upon_value]
  go_wp2
  rw [run_callFunc_extern Tryz.func196 (by kernel_rfl) (by kernel_rfl) (by kernel_rfl) (e := Extern.AbiNoEscape.same) (by kernel_rfl)]
  rw [Lib.run_noEscape]
  simp only [Result.andThen]
  rw [Oper.upon_value]
  go_wp2
  rw [Lib.run_from_unsafe w ⟨r, 0, none⟩ Tryz.underlying367 Tryz.underlying135 hj hsh hlies]
  simp only [Result.andThen]
  rw [Oper.upon_value]
  go_wp2
  go_end0
  exact ⟨rfl, rfl⟩
set_option maxHeartbeats 1000000 in
set_option maxRecDepth 100000 in
theorem copyCheck_used (w : World) (r : Nat) (h0 : w.cell? ⟨r, 0, none⟩ = some (.pointer (some ⟨r, 0, none⟩))) :
    Calls Tryz.prog 144 #[.pointer (some ⟨r, 0, none⟩)] w fun e w' => e = .returned (.tuple #[]) ∧ w' = w := by
  obtain ⟨j, hj, hjs⟩ := Option.map_eq_some_iff.1 info_bld
  go_enter Tryz.func144, Tryz.ntmps144
  go_wp2
  rw [Lib.run_neq_ptr_same w _ Tryz.underlying135 hj]
  go_wp2
  go_end0
  exact ⟨rfl, rfl⟩
theorem copy_orc {mx : Int} {args : List AV} {h : AH} {r : AV} {h' : AH} (e : copyO0 args h = some (r, h')) : RunAt Tryz.prog (C0 mx) 144 args h r h' := by
  refine ⟨⟨_, Tryz.func144, by kernel_rfl, by kernel_rfl⟩, fun ok w ρ us I hv => ?_⟩
  unfold copyO0 at e
  split at e
  · rename_i b o
    obtain ⟨e1, e2⟩ := bq_some e
    have e1 := Nat.eq_of_beq_eq_true e1
    subst e1
    simp only [VL] at hv
    obtain ⟨u1, _, rfl, v1, rfl⟩ := hv
    simp only [V] at v1
    obtain ⟨q, hq, rfl⟩ := v1
    split at e2
    · rename_i cs y hb
      obtain ⟨e3, e4⟩ := bq_some e2
      obtain ⟨q1, g1, g2, arr0, e0, fr0, g3, g4, g5, g6⟩ := I.live b _ hb
      obtain ⟨q', arr, et, fr, k1, k2, k3, k4, k5, k6, k7⟩ := ext_row I hb
      rw [hq] at g1 k1
      cases g1; cases k1
      rw [g3] at k3; cases k3
      have hsz : cs.length ≤ arr0.size := by
        cases cs with
        | nil => simp
        | cons a l => have := (VL_of_VAt g3 _ g5).2 (by simp); omega
      have hlies : liesAt Tryz.prog Tryz.prog.depth e0 (arr0.size / Tryz.prog.cellsOf e0) 0 137 1 = true ∧ 2 ≤ cs.length := by
        have hey : ∀ {t : Nat}, Nat.beq y (t + 1) = true → e0 = t := fun {t} ey => by
          have ey := Nat.eq_of_beq_eq_true ey
          rcases g6 with c | c
          · rw [c] at ey; cases ey
          · exact (Nat.succ.inj (ey.symm.trans c)).symm
        rw [Bool.or_eq_true, Bool.and_eq_true, Bool.and_eq_true] at e3
        rcases e3 with ⟨ey, el⟩ | ⟨ey, el⟩
        · have el := Nat.le_of_ble_eq_true el
          rw [flen_eq] at el
          refine ⟨?_, el⟩
          rw [hey ey]
          exact lies_here lies_b not_arr (by rw [bld_cells]; omega)
        · have el := Nat.le_of_ble_eq_true el
          rw [flen_eq] at el
          refine ⟨?_, by omega⟩
          rw [hey ey]
          obtain ⟨c1, c2⟩ := cells_w'
          generalize hcw : Tryz.prog.cellsOf bldW = cw at c1 c2
          exact lies_here lies_w not_arr (by rw [Nat.le_div_iff_mul_le c1]; omega)
      obtain ⟨hlies, el⟩ := hlies
      have hfz : w.frozen? ⟨q, 0, none⟩ = false := by
        obtain ⟨lo, hi⟩ := fr0
        have := g4 0 (by omega)
        simp [World.frozen?, g3]
        simp at this
        omega
      split at e4
      · rename_i hc
        cases e4
        rw [fget_eq] at hc
        obtain ⟨x, c1, c2⟩ := VAt_get g5 hc
        simp only [V] at c2
        subst c2
        refine (copyCheck_fresh w q arr0.size e0 (by simp [World.shape?, g3]) (by omega) hlies (by simpa using c1) hfz).mono ?_
        rintro en w' ⟨rfl, rfl⟩
        obtain ⟨E, I'⟩ := k7 (fset (.pto b 0) cs 0) (arr0.setIfInBounds 0 (.pointer (some ⟨q, 0, none⟩))) (by simp) (by
          rw [fset_eq, List.length_set, Array.toList_setIfInBounds, take_set_list]
          exact VL_set 0 k5 (by simp only [V]; exact ⟨q, hq, rfl⟩))
        rw [setCell_row w q 0 arr0 _ fr0 _ g3]
        refine ⟨_, ok, ρ, rfl, E, I', ?_⟩
        simp only [V]
        exact ⟨#[], rfl, by simp only [VL]⟩
      · rename_i b' o' hc
        obtain ⟨e5, e6⟩ := bq_some e4
        cases e6
        rw [Bool.and_eq_true] at e5
        have eb := Nat.eq_of_beq_eq_true e5.1
        have eo := Nat.eq_of_beq_eq_true e5.2
        subst eb; subst eo
        rw [fget_eq] at hc
        obtain ⟨x, c1, c2⟩ := VAt_get g5 hc
        simp only [V] at c2
        obtain ⟨q2, hq2, rfl⟩ := c2
        rw [hq] at hq2; cases hq2
        refine (copyCheck_used w q (by simpa using c1)).mono ?_
        rintro en w' ⟨rfl, rfl⟩
        refine ⟨_, ok, ρ, rfl, Ext.refl _ _ _ _, I, ?_⟩
        simp only [V]
        exact ⟨#[], rfl, by simp only [VL]⟩
      · cases e4
    · cases e2
  · cases e
end Go.Proofs.YtdkioifmieamoaaGreatDoor
namespace Go.Proofs.YtdkioifmieamoaaGreatDoor
set_option linter.unusedSimpArgs false
set_option linter.unusedVariables false
set_option linter.unnecessarySimpa false
open Go.Shelf
/-- A row changes that nobody names any more. -/
theorem Ext.gone {C : Cx} {ok : Nat → Prop} {w : World} {ρ : Rho} {h : AH} (I : Inv C ok w ρ h) {w' : World} {n r : Nat} {b : Blk} (hn : hget h n = some b) (hr : ρ n = some r)
    (hsz : w'.heap.size = w.heap.size) (hh : ∀ k, k ≠ r → w'.heap[k]? = w.heap[k]?) (hs : ∀ s, w.shape? r = some s → w'.shape? r = some s) (h1 : w'.os = w.os) (h2 : w'.tape = w.tape) (h3 : w'.output = w.output) :
    Ext ok w ρ h ok w' ρ (fset none h n) ∧ Inv C ok w' ρ (fset none h n) := by
  have hnl : hget h n ≠ none := by rw [hn]; simp
  have hln := hget_lt hnl
  have notok : ¬ok r := fun hk => I.apart hk n hnl hr
  have U : Up ok w ρ ok w' ρ := by
    refine ⟨fun k hk => hh k (fun e => notok (e ▸ hk)), fun _ h => h, fun k s hk => ?_, fun _ _ h => h⟩
    by_cases e : k = r
    · subst e; exact hs s hk
    · rw [shape_of_heap (hh k e)]; exact hk
  have liv : ∀ m, hget (fset none h n) m ≠ none → hget h m ≠ none := by
    intro m hm
    rw [hget_set] at hm
    split at hm
    · exact absurd rfl hm
    · exact hm
  refine ⟨⟨U, by omega, h1, h2, h3, by rw [fset_len]; omega, ?_, fun _ h => .inl h, fun m _ => liv m, fun _ _ h => .inl h⟩, ⟨?_, ?_, ?_, fun m k q hm hk => I.inj m k q (liv m hm) (liv k hk), I.glob U⟩⟩
  · intro k hk ha
    exact hh k (fun e => ha n hnl (e ▸ hr))
  · intro k hk; rw [hsz]; exact I.okb k hk
  · intro m k e; rw [fset_len, hsz]; exact I.dom m k e
  · intro m b'' e
    rw [hget_set] at e
    split at e
    · cases e
    · next c =>
      obtain ⟨k, e1, e2, e3⟩ := I.live m b'' e
      refine ⟨k, e1, e2, e3.up U (hh k ?_)⟩
      intro ek
      subst ek
      have := I.inj m n _ (by rw [e]; simp) hnl e1 hr
      exact c ⟨this, hln⟩
set_option maxHeartbeats 1000000 in
set_option maxRecDepth 100000 in
theorem string_nil (w : World) (r : Nat) (h1 : w.cell? ⟨r, 1, none⟩ = some (.slice none 0 0)) :
    Calls Tryz.prog 53 #[.pointer (some ⟨r, 0, none⟩)] w fun e w' => e = .returned (.string ⟨#[]⟩) ∧ w' = w.drew := by
  have c1 : w.drew.cell? ⟨r, 1, none⟩ = some (.slice none 0 0) := h1
  have hUS : ∀ (W : World) (q : Option Addr), (Builtin.unsafeString_ #[213, 3] 9 #[.pointer q, .int .i64 0]).run Tryz.prog W = .ok (.string .empty) W := fun W q => Lib.run_unsafeString_none W _ _ _ q
  have hSD : (Builtin.unsafeSliceData_ #[27] 213 #[.slice none 0 0]).run Tryz.prog w.drew = .ok (.pointer none) w.drew := rfl
  have mixed : Tryz.prog.follows Departure.mixedOrders = true := by kernel_rfl
  go_enter Tryz.func53, Tryz.ntmps53
  go_wp2
  go_region_o
  all_goals (go_wp2; go_ret; exact ⟨rfl, rfl⟩)
set_option maxHeartbeats 1000000 in
set_option maxRecDepth 100000 in
theorem string_some (w : World) (r g cap cells : Nat) (l : List UInt8) (h0 : l ≠ []) (h1 : w.cell? ⟨r, 1, none⟩ = some (.slice (some ⟨g, 0, none⟩) l.length cap)) (hcap : cap ≠ 0) (hsh : w.shape? g = some (5, cells)) (hn : l.length ≤ cells) (h63 : l.length ≤ 9223372036854775807)
    (hcell : ∀ j x, l[j]? = some x → w.cell? ((⟨g, 0, none⟩ : Addr).add j) = some (.int .u8 x.toNat)) :
    Calls Tryz.prog 53 #[.pointer (some ⟨r, 0, none⟩)] w fun e w' => e = .returned (.string ⟨l.toArray⟩) ∧ w' = w.drew.freeze ⟨g, 0, none⟩ l.length := by
  have c1 : w.drew.cell? ⟨r, 1, none⟩ = some (.slice (some ⟨g, 0, none⟩) l.length cap) := h1
  have hSD : (Builtin.unsafeSliceData_ #[27] 213 #[.slice (some ⟨g, 0, none⟩) l.length cap]).run Tryz.prog w.drew = .ok (.pointer (some ⟨g, 0, none⟩)) w.drew :=
    Lib.run_unsafeSliceData_row _ _ _ _ _ _ hcap
  have hUS : (Builtin.unsafeString_ #[213, 3] 9 #[.pointer (some ⟨g, 0, none⟩), .int .i64 l.length]).run Tryz.prog w.drew = .ok (.string ⟨l.toArray⟩) (w.drew.freeze ⟨g, 0, none⟩ l.length) :=
    Lib.run_unsafeString_row w.drew 213 3 9 5 Tryz.underlying213 (by kernel_rfl) g cells hsh l h0 hn h63 hcell
  clear h1 hcap hsh hn h63 hcell h0
  have mixed : Tryz.prog.follows Departure.mixedOrders = true := by kernel_rfl
  go_enter Tryz.func53, Tryz.ntmps53
  go_wp2
  go_region_o
  all_goals (go_wp2; go_ret; exact ⟨rfl, rfl⟩)
end Go.Proofs.YtdkioifmieamoaaGreatDoor
namespace Go.Proofs.YtdkioifmieamoaaGreatDoor
set_option linter.unusedSimpArgs false
set_option linter.unusedVariables false
set_option linter.unnecessarySimpa false
theorem freeze_other (w : World) (g n k : Nat) (hk : k ≠ g) : (w.freeze ⟨g, 0, none⟩ n).heap[k]? = w.heap[k]? := by
  unfold World.freeze
  split
  · rfl
  · simp [Array.getElem?_modify, hk.symm]
theorem freeze_size (w : World) (g n : Nat) : (w.freeze ⟨g, 0, none⟩ n).heap.size = w.heap.size := by
  unfold World.freeze
  split <;> simp
theorem freeze_shape (w : World) (g n : Nat) (s : TypeId × Nat) (h : w.shape? g = some s) : (w.freeze ⟨g, 0, none⟩ n).shape? g = some s := by
  unfold World.freeze
  split
  · exact h
  · unfold World.shape? at h ⊢
    cases hg : w.heap[g]? with
    | none => rw [hg] at h; cases h
    | some o =>
      rw [hg] at h
      simp only [Array.getElem?_modify, hg, if_true, Option.map_some]
      cases o <;> first | exact h | (cases h)
theorem freeze_rest (w : World) (g n : Nat) : (w.freeze ⟨g, 0, none⟩ n).os = w.os ∧ (w.freeze ⟨g, 0, none⟩ n).tape = w.tape ∧ (w.freeze ⟨g, 0, none⟩ n).output = w.output := by
  unfold World.freeze
  split <;> exact ⟨rfl, rfl, rfl⟩
theorem str_orc {mx : Int} {args : List AV} {h : AH} {r : AV} {h' : AH} (e : strO0 args h = some (r, h')) : RunAt Tryz.prog (C0 mx) 53 args h r h' := by
  refine ⟨⟨_, Tryz.func53, by kernel_rfl, by kernel_rfl⟩, fun ok w ρ us I hv => ?_⟩
  unfold strO0 at e
  split at e
  · rename_i b o
    obtain ⟨e1, e2⟩ := bq_some e
    have e1 := Nat.eq_of_beq_eq_true e1
    subst e1
    simp only [VL] at hv
    obtain ⟨u1, _, rfl, v1, rfl⟩ := hv
    simp only [V] at v1
    obtain ⟨q, hq, rfl⟩ := v1
    split at e2
    · rename_i cs y hb
      obtain ⟨q1, g1, g2, arr0, e0, fr0, g3, g4, g5, g6⟩ := I.live b _ hb
      rw [hq] at g1
      cases g1
      split at e2
      · rename_i hc
        cases e2
        rw [fget_eq] at hc
        obtain ⟨x, c1, c2⟩ := VAt_get g5 hc
        simp only [V] at c2
        subst c2
        refine (string_nil w q (by simpa using c1)).mono ?_
        rintro en w' ⟨rfl, rfl⟩
        obtain ⟨E, I'⟩ := Ext.drew I (w.drawn + 1)
        refine ⟨_, ok, ρ, rfl, E, I', ?_⟩
        simp only [V]
        exact ⟨⟨#[]⟩, rfl, rfl⟩
      · rename_i b' o' n c z ex hc
        obtain ⟨e3, e4⟩ := bq_some e2
        simp only [Bool.and_eq_true] at e3
        obtain ⟨⟨e31, e32⟩, e33, e34⟩ := e3
        have e31 := Nat.eq_of_beq_eq_true e31
        have e32 := Nat.eq_of_beq_eq_true e32
        have e33 : 0 < n := Nat.le_of_ble_eq_true e33
        have e34 := Nat.le_of_ble_eq_true e34
        subst e31; subst e32
        split at e4
        · rename_i cs' y' hb'
          obtain ⟨e5, e6⟩ := bq_some e4
          rw [Bool.and_eq_true] at e5
          have ey := Nat.eq_of_beq_eq_true e5.1
          have el := Nat.le_of_ble_eq_true e5.2
          rw [flen_eq] at el
          obtain ⟨x, e7, e8⟩ := obind_eq_some e6
          cases e8
          rw [fget_eq] at hc
          obtain ⟨u, c1, c2⟩ := VAt_get g5 hc
          simp only [V] at c2
          obtain ⟨g, c', r1, rfl, r2, rlc, tt, N, r3, r4⟩ := c2
          obtain ⟨g0, k1, k2, arr, et, fr, k3, k4, k5, k6⟩ := I.live b' _ hb'
          rw [r1] at k1; cases k1
          have het : et = 5 := by
            rcases k6 with c | c
            · rw [c] at ey; cases ey
            · exact (Nat.succ.inj (ey.symm.trans c)).symm
          subst het
          have hsz : cs'.length ≤ arr.size := by
            cases cs' with
            | nil => simp
            | cons a l => have := (VL_of_VAt k3 _ k5).2 (by simp); omega
          rw [ftake_eq] at e7
          obtain ⟨vs, m1, m2⟩ := VAt_vals (VAt_take n k5)
          obtain ⟨m3, m4⟩ := bytes_vals e7 m1
          have ml := VL_len m1
          have hlx : x.length = n := by
            have : vs.length = x.length := by rw [m3]; simp
            have h2 : (cs'.take n).length = n := by simp; omega
            omega
          have hmap : (x.map (·.toUInt8)).map UInt8.toNat = x := by
            rw [List.map_map]
            conv => rhs; rw [← List.map_id x]
            apply List.map_congr_left
            intro a ha
            have := m4 a ha
            simp [Nat.mod_eq_of_lt this]
          have hl : (x.map (·.toUInt8)).length = n := by simp [hlx]
          have run := string_some w q g c' arr.size (x.map (·.toUInt8)) (by intro c; have := congrArg List.length c; simp [hlx] at this; omega) (by rw [hl]; simpa using c1) (by omega) (by simp [World.shape?, k3]) (by omega) (by omega) (by
            intro j v hj
            rw [addr_add]
            have hj' : x[j]? = some v.toNat := by
              have := congrArg (·[j]?) hmap
              simp only [List.getElem?_map] at this
              rw [← this]
              simp only [List.getElem?_map] at hj
              rw [hj]; rfl
            refine m2 j _ ?_
            rw [m3, List.getElem?_map, hj']
            rfl)
          rw [hl] at run
          refine run.mono ?_
          rintro en w' ⟨rfl, rfl⟩
          obtain ⟨E0, I0⟩ := Ext.drew I (w.drawn + 1)
          obtain ⟨E1, I1⟩ := Ext.gone (w' := w.drew.freeze ⟨g, 0, none⟩ n) I0 hb' r1 (freeze_size w.drew g n) (fun k hk => freeze_other w.drew g n k hk) (fun s hs => freeze_shape w.drew g n s hs) (freeze_rest w.drew g n).1 (freeze_rest w.drew g n).2.1 (freeze_rest w.drew g n).2.2
          refine ⟨_, ok, ρ, rfl, Ext.trans I E0 E1, I1, ?_⟩
          simp only [V]
          refine ⟨_, rfl, ?_⟩
          simpa using hmap.symm
        · cases e4
      · cases e2
    · cases e2
  · cases e
end Go.Proofs.YtdkioifmieamoaaGreatDoor
namespace Go.Proofs.YtdkioifmieamoaaGreatDoor
set_option linter.unusedSimpArgs false
set_option linter.unusedVariables false
set_option linter.unnecessarySimpa false
theorem mDisable (w : World) : (callFunc 198 #[]).run Tryz.prog w = .ok (.value (.tuple #[])) w := run_call_mark0 Tryz.func198 (by kernel_rfl) (by kernel_rfl) (by kernel_rfl) .disable (by kernel_rfl) w
theorem mEnable (w : World) : (callFunc 200 #[]).run Tryz.prog w = .ok (.value (.tuple #[])) w := run_call_mark0 Tryz.func200 (by kernel_rfl) (by kernel_rfl) (by kernel_rfl) .enable (by kernel_rfl) w
theorem mAcquire (a : Addr) (w : World) : (callFunc 201 #[.pointer (some a)]).run Tryz.prog w = .ok (.value (.tuple #[])) w := run_call_marked Tryz.func201 (by kernel_rfl) (by kernel_rfl) (by kernel_rfl) .acquire (by kernel_rfl) a w
theorem mRelease (a : Addr) (w : World) : (callFunc 203 #[.pointer (some a)]).run Tryz.prog w = .ok (.value (.tuple #[])) w := run_call_marked Tryz.func203 (by kernel_rfl) (by kernel_rfl) (by kernel_rfl) .releaseMerge (by kernel_rfl) a w
/-- '(*sync/atomic.Bool).Store(true)', entered as a deferred call: the cell holds 1. -/
theorem store_deferred (a : Addr) (x : Value) (u : FrameMode) (w : World) (hc : w.cell? a = some x) (hz : w.frozen? a = false) :
    CallsD Tryz.prog 92 #[.pointer (some a), .bool true] u w fun e u' w' => u' = u ∧ (e = .returned (.tuple #[]) ∧ w' = w.drew.setCell a (.int .u32 1)) := by
  have hc' : w.drew.cell? a = some x := by go_simp
  have hz' : w.drew.frozen? a = false := by go_simp
  have hst := run_call_store (P := Tryz.prog) Tryz.func151 (by kernel_rfl) (by kernel_rfl) (by kernel_rfl) (by kernel_rfl) (k := .u32) (y := 1) hc' hz'
  go_enter_d Tryz.func92, Tryz.ntmps92
  go_wp2
  go_region_calls
  all_goals (go_end0; exact ⟨rfl, rfl⟩)
set_option maxRecDepth 100000 in
set_option maxHeartbeats 1600000 in
/-- '(*sync.Mutex).Unlock', entered as a deferred call, the lock held and nobody waiting (state 1): state 0. -/
theorem unlock_deferred (a : Addr) (u : FrameMode) (w : World) (hc : w.cell? a = some (.int .i32 1)) (hz : w.frozen? a = false) :
    CallsD Tryz.prog 91 #[.pointer (some a)] u w fun e u' w' => u' = u ∧ (e = .returned (.tuple #[]) ∧ w' = w.setCell a (.int .i32 0)) := by
  have hd := mDisable
  have he := mEnable
  have hr := mRelease
  have hadd := run_call_add (P := Tryz.prog) Tryz.func58 (by kernel_rfl) (by kernel_rfl) (by kernel_rfl) .i32 (by kernel_rfl) (y := -1) (s := 0) hc hz (by simp [go_sem]; rfl)
  have hcv := run_convert_to_unsafe (P := Tryz.prog) (src := 370) (dst := 367) Tryz.underlying370 Tryz.underlying367 (by kernel_rfl) hc
  go_enter_d Tryz.func91, Tryz.ntmps91
  go_wp2
  go_end0
  go_wp2
  go_end0
  exact ⟨rfl, rfl⟩
set_option maxRecDepth 100000 in
set_option maxHeartbeats 1600000 in
/-- '(*sync.Mutex).Lock', the lock free (state 0): state 1. -/
theorem lock_free (a : Addr) (w : World) (hc : w.cell? a = some (.int .i32 0)) (hz : w.frozen? a = false) :
    Calls Tryz.prog 90 #[.pointer (some a)] w fun e w' => e = .returned (.tuple #[]) ∧ w' = w.setCell a (.int .i32 1) := by
  have hd := mDisable
  have he := mEnable
  have ha := mAcquire
  have hcas := run_call_cas_hit (P := Tryz.prog) Tryz.func199 (by kernel_rfl) (by kernel_rfl) (by kernel_rfl) .i32 (by kernel_rfl) (y := 1) hc hz
  have hc' : (w.setCell a (.int .i32 1)).cell? a = some (.int .i32 1) := World.cell?_setCell_same w a _ hc
  have hcv := run_convert_to_unsafe (P := Tryz.prog) (src := 370) (dst := 367) Tryz.underlying370 Tryz.underlying367 (by kernel_rfl) hc'
  go_enter Tryz.func90, Tryz.ntmps90
  go_wp2
  first | go_end0 | (simp only [Exit.inBlock, Exit.then]; refine bodyPost_ret (results_none rfl _ _ _) rfl ?_) | refine bodyPost_ret (results_none rfl _ _ _) rfl ?_
  go_wp2
  go_end0
  exact ⟨rfl, rfl⟩
theorem ibeq_true {a b : Int} (h : ibeq a b = true) : a = b := by
  cases a <;> cases b <;> simp [ibeq] at h <;> simp [h]
set_option maxRecDepth 100000 in
set_option maxHeartbeats 1600000 in
theorem slow_orc {mx : Int} {run : Run} (H : RunOk Tryz.prog (C0 mx) run) {args : List AV} {h : AH} {r : AV} {h' : AH} (e : slowO run args h = some (r, h')) : RunAt Tryz.prog (C0 mx) 57 args h r h' := by
  unfold slowO at e
  split at e
  · rename_i b o f q z
    obtain ⟨cs0, y0, c0, a1, a2, a3⟩ := atCell_some e
    obtain ⟨d, rfl, a4⟩ := numK_some a3
    obtain ⟨a5, a6⟩ := bq_some a4
    obtain ⟨cs1, y1, c1, b1, b2, b3⟩ := atCell_some a6
    obtain ⟨m, rfl, b4⟩ := numK_some b3
    obtain ⟨b5, b6⟩ := bq_some b4
    obtain ⟨⟨u, h2⟩, d1, d2⟩ := obind_eq_some b6
    obtain ⟨cs2, y2, c2, g1, g2, g3⟩ := atCell_some d2
    obtain ⟨z2, rfl, g4⟩ := numK_some g3
    obtain ⟨cs3, y3, c3, k1, k2, k3⟩ := atCell_some g4
    obtain ⟨m3, rfl, k4⟩ := numK_some k3
    obtain ⟨k5, k6⟩ := bq_some k4
    cases k6
    rw [a1] at b1; cases b1
    obtain rfl := ibeq_true a5
    obtain rfl := ibeq_true b5
    obtain rfl := ibeq_true k5
    obtain ⟨⟨fn, f1, f2, f3⟩, R⟩ := H _ _ _ _ _ d1
    clear e a3 a4 a5 a6 b3 b4 b5 b6 d1 d2 g3 g4 k3 k4 k5
    refine ⟨⟨_, Tryz.func57, by kernel_rfl, by kernel_rfl⟩, fun ok w ρ us I hv => ?_⟩
    simp only [VL] at hv
    obtain ⟨u1, _, rfl, v1, u2, _, rfl, v2, rfl⟩ := hv
    simp only [V, VL] at v1 v2
    obtain ⟨rb, n1, rfl⟩ := v1
    obtain ⟨fa, fc, rfl, n2, n3⟩ := v2
    obtain ⟨uq, _, n4, n5, rfl⟩ := n3
    obtain ⟨rq, n6, rfl⟩ := n5
    obtain rfl : fa = #[] := by cases fa; simp_all
    obtain rfl : fc = #[.pointer (some ⟨rq, z, none⟩)] := by cases fc; simp_all
    obtain ⟨r0, w0, p1, p2, p3, p4, p5⟩ := live_cell I a1 a2
    rw [n1] at p1; cases p1
    cases V_num (k := .u32) p3
    obtain ⟨r1, w1, s1, s2, s3, s4, s5⟩ := live_cell I a1 b2
    rw [n1] at s1; cases s1
    cases V_num (k := .i32) s3
    obtain ⟨E1, I1⟩ := s5 (.int 2147483647 1) (.int .i32 1) (V_num_mk (k := .i32))
    have C := R ok _ ρ [.pointer (some ⟨rq, z, none⟩)] I1 (by simp only [VL, V]; exact ⟨_, _, rfl, ⟨rq, n6, rfl⟩, rfl⟩)
    have eg : ∀ args w, (callFunc f args).run Tryz.prog w = .ok (.enter f args) w := by
      cases hb : fn.body with
      | none => rw [hb] at f3; cases f3
      | some c => exact enters_of f1 f2 hb
    have hl := run_call_load (P := Tryz.prog) Tryz.func89 (by kernel_rfl) (by kernel_rfl) (by kernel_rfl) .u32 (by kernel_rfl) (w := w.setCell ⟨rb, o + 1, none⟩ (.int .i32 1)) (a := ⟨rb, o, none⟩) (x := 0) ((World.cell?_setCell_other _ ⟨rb, o + 1, none⟩ ⟨rb, o, none⟩ _ (by simp)).trans p2)
    have hnot : ∀ (x : Bool) (w : World), (Op.unary .not (.bool x)).run Tryz.prog w = .ok (.bool (!x)) w := fun _ _ => rfl
    go_enter_defers Tryz.func57, Tryz.ntmps57
    go_wp2_with (go_at_call 90; refine (lock_free ⟨rb, o + 1, none⟩ _ (by go_simp) (by go_simp)).mono ?_; rintro e w' ⟨rfl, rfl⟩)
    go_wp2
    refine C.mono ?_
    rintro e w2 ⟨u2, ok2, ρ2, rfl, E2, I2, V2⟩
    have m1 := E2.up.nam b rb n1
    obtain ⟨Ed, Id⟩ := Ext.drew I2 (w2.drawn + 1)
    obtain ⟨r2, x2, t1, t2, t3, t4, t5⟩ := live_cell Id g1 g2
    rw [m1] at t1; cases t1
    obtain ⟨E3, I3⟩ := t5 (.int 4294967295 1) (.int .u32 1) (V_num_mk (k := .u32))
    obtain ⟨r3, x3, l1, l2, l3, l4, l5⟩ := live_cell I3 k1 k2
    rw [m1] at l1; cases l1
    cases V_num (k := .i32) l3
    obtain ⟨E4, I4⟩ := l5 (.int 2147483647 0) (.int .i32 0) (V_num_mk (k := .i32))
    go_wp2
    have q2 : w2.cell? ⟨rb, o, none⟩ = some x2 := by rw [← World.cell?_drew]; exact t2
    have q4 : w2.frozen? ⟨rb, o, none⟩ = false := by rw [← World.frozen?_drew]; exact t4
    refine leaves_cons (f := 92) (args := #[.pointer (some ⟨rb, o, none⟩), .bool true]) (by simp) (by simp [go_sem]) ?_
    refine (store_deferred ⟨rb, o, none⟩ x2 .returning _ q2 q4).mono ?_
    rintro e u' w'' ⟨rfl, rfl, rfl⟩
    refine leaves_cons (f := 91) (args := #[.pointer (some ⟨rb, o + 1, none⟩)]) (by simp [settle]) (by simp [go_sem]) ?_
    refine (unlock_deferred ⟨rb, o + 1, none⟩ _ _ l2 l4).mono ?_
    rintro e u' w'' ⟨rfl, rfl, rfl⟩
    have Efin := Ext.trans I E1 (Ext.trans I1 E2 (Ext.trans I2 Ed (Ext.trans Id E3 E4)))
    refine ⟨.tuple #[], ?_, .tuple #[], ok2, ρ2, rfl, Efin, I4, by simp only [V]; exact ⟨#[], rfl, by simp only [VL]⟩⟩
    simp [results, Tryz.results57]
  · cases e
end Go.Proofs.YtdkioifmieamoaaGreatDoor
namespace Go.Proofs.YtdkioifmieamoaaGreatDoor
set_option linter.unusedVariables false
theorem c0_ok {mx : Int} : CxOk Tryz.prog (C0 mx) := by
  refine cx_ok fun f g e run hr args h r h' e2 => ?_
  have e : bq (Nat.beq f 317) _ (bq (Nat.beq f 144) _ (bq (Nat.beq f 53) _ (bq (Nat.beq f 57) _ (none)))) = some g := e
  cases h0 : Nat.beq f 317 with
  | true =>
    rw [h0, bq_true] at e
    cases e
    rw [Nat.eq_of_beq_eq_true h0]
    exact index_orc e2
  | false =>
    rw [h0, bq_false] at e
    cases h1 : Nat.beq f 144 with
    | true =>
      rw [h1, bq_true] at e
      cases e
      rw [Nat.eq_of_beq_eq_true h1]
      exact copy_orc e2
    | false =>
      rw [h1, bq_false] at e
      cases h2 : Nat.beq f 53 with
      | true =>
        rw [h2, bq_true] at e
        cases e
        rw [Nat.eq_of_beq_eq_true h2]
        exact str_orc e2
      | false =>
        rw [h2, bq_false] at e
        cases h3 : Nat.beq f 57 with
        | true =>
          rw [h3, bq_true] at e
          cases e
          rw [Nat.eq_of_beq_eq_true h3]
          exact slow_orc hr e2
        | false =>
          rw [h3, bq_false] at e
          cases e
end Go.Proofs.YtdkioifmieamoaaGreatDoor
namespace Go.Proofs.YtdkioifmieamoaaGreatDoor
set_option linter.unusedSimpArgs false
set_option linter.unusedVariables false
set_option linter.unnecessarySimpa false
open Go.RowKit
theorem asc_inv {cs : Array Value} {fuel : Nat} {p : List MemPlace} {W : World} (hv : W.var? Tryz.prog "strings.asciiSpace" = some cs) (hd : DataW.trod (fun _ => ()) Tryz.prog W 0 (fun _ => true) false fuel 251 cs.toList = some (Rows.laid_strings_asciiSpace, p)) : VAt (· < W.heap.size) W asc0 ρ0 0 0 := by
  show VAt (· < W.heap.size) W (ascZ.map fun n => .int (maxN .u8) n) ρ0 0 0
  refine VAt_tab fun r hr => ?_
  rw [Nat.zero_add]
  exact tab_cells (by kernel_rfl) hv Tryz.underlying251 Tryz.underlying5 (by kernel_rfl) (by kernel_rfl) (by kernel_rfl) hd r hr
theorem maxLen_some {W : World} (hs : W.ShapedOpen Tryz.prog) : ∃ m, W.cell? ⟨3, 0, none⟩ = some (.int .i64 m) :=
  cell_of_shapedOpen_int (t := 3) (zero := #[.int .i64 0]) hs (of_decide_eq_true (by kernel_rfl)) (by kernel_rfl) rfl (by kernel_rfl) (by kernel_rfl) Tryz.underlying3
theorem cell_block {w : World} {b o : Nat} {v : Value} (h : w.cell? ⟨b, o, none⟩ = some v) : b < w.heap.size := by
  rcases Nat.lt_or_ge b w.heap.size with h1 | h1
  · exact h1
  · unfold World.cell? at h
    rw [Array.getElem?_eq_none h1] at h
    simp at h
theorem VAt_block {ok : Nat → Prop} {w : World} {l : List AV} {ρ : Rho} {g : Nat} (h : VAt ok w l ρ g 0) (hl : l ≠ []) : g < w.heap.size := by
  cases l with
  | nil => exact absurd rfl hl
  | cons a r =>
    simp only [VAt] at h
    obtain ⟨⟨u, hu, _⟩, _⟩ := h
    exact cell_block hu
theorem inv0 {W : World} {mx : Int} (t0 : VAt (· < W.heap.size) W asc0 ρ0 0 0) (hm : W.cell? ⟨3, 0, none⟩ = some (.int .i64 mx)) : Inv (C0 mx) (· < W.heap.size) W ρ0 [] := by
  refine ⟨fun _ h => h, fun n r e => (by cases e), fun n b e => (by simp [hget_eq] at e), fun n m r hn => (by simp [hget_eq] at hn), fun g cs e => ?_⟩
  have e : gl0 mx g = some cs := e
  unfold gl0 at e
  cases h0 : Nat.beq g 0 with
  | true =>
    rw [h0, bq_true] at e
    cases e
    rw [Nat.eq_of_beq_eq_true h0]
    exact ⟨VAt_block t0 (by intro c; have := congrArg List.length c; revert this; decide +kernel), t0⟩
  | false =>
    rw [h0, bq_false] at e
    obtain ⟨hg, e⟩ := bq_some e
    cases e
    rw [Nat.eq_of_beq_eq_true hg]
    refine ⟨cell_block hm, ?_⟩
    simp only [VAt]
    refine ⟨⟨_, hm, ?_⟩, trivial⟩
    simp only [V]
    exact ⟨.i64, rfl, rfl⟩
end Go.Proofs.YtdkioifmieamoaaGreatDoor
