/- The tables of this program, and its context, which is right. -/
import Derived.Test.YtlkccnhkenmkdaaGreatDoorProg
import Derived.Test.YtlkccnhkenmkdaaGreatDoorMA
import Derived.Shelf.Small.Bits
import Derived.Shelf.Strconv.Itoa0
import Derived.Shelf.Strconv.Itoa1
import Derived.Shelf.LaysM
import Derived.Shelf.Strconv.Itoa2
import Derived.Shelf.Strconv.Itoa3
import Derived.Shelf.Strings.Search1
import Derived.Shelf.Strings.Search2
import Derived.Shelf.Strings.Search3
import Derived.Shelf.Strings.Shaped
import Derived.Shelf.Sort.Plain
import Derived.Shelf.Strings.Fields
import Derived.Shelf.Strings.SplitShaped
import Derived.Shelf.Unicode.Latin
import Derived.Shelf.Bits.Mul64
import Derived.Shelf.Unicode.Is16White
import Derived.Shelf.Unicode.IsSpaceAny
import Derived.Shelf.Unicode.Is16Any
import Derived.Shelf.Unicode.Is32Any
import Derived.Shelf.Unicode.ExclAny
import Derived.Shelf.Slices.Turned
import Derived.Ground.Names2Prog
import Derived.Shelf.Slices.Clone
import Derived.Shelf.Slices.SearchI
import Derived.Shelf.Slices.In.SortNone
import Derived.Ground.SlgnProg
import Derived.Shelf.SlicesE.Clone
import Derived.Test.YtlkccnhkenmkdaaGreatDoorME
import Derived.Test.YtlkccnhkenmkdaaGreatDoorRows
import Derived.Shelf.Vars
import Derived.LaidMore
import Derived.MakeChecks
namespace Go.Proofs.YtlkccnhkenmkdaaGreatDoor
noncomputable section
noncomputable def tyT : BT TI := (.nd 160 (.nd 81 (.nd 39 (.nd 19 (.nd 10 (.nd 5 (.nd 3 (.nd 2 (.lf 1 ⟨.func, 1, 8, [.nilf], false, false⟩) (.lf 2 ⟨.int .i64, 1, 8, [.int 9223372036854775807 0], false, true⟩)) (.nd 4 (.lf 3 ⟨.int .i64, 1, 8, [.int 9223372036854775807 0], false, true⟩) (.lf 4 ⟨.bool, 1, 1, [.bool false], false, true⟩))) (.nd 7 (.nd 6 (.lf 5 ⟨.int .u8, 1, 1, [.int 255 0], false, true⟩) (.lf 6 ⟨.int .u8, 1, 1, [.int 255 0], false, true⟩)) (.nd 8 (.lf 7 ⟨.struct [(0, 2), (1, 3), (2, 4), (3, 6)], 4, 24, [.int 9223372036854775807 0, .int 9223372036854775807 0, .bool false, .int 255 0], true, false⟩) (.nd 9 (.lf 8 ⟨.struct [(0, 2), (1, 3), (2, 4), (3, 6)], 4, 24, [.int 9223372036854775807 0, .int 9223372036854775807 0, .bool false, .int 255 0], true, false⟩) (.lf 9 ⟨.string, 1, 16, [.str []], false, true⟩))))) (.nd 14 (.nd 12 (.nd 11 (.lf 10 ⟨.string, 1, 16, [.str []], false, true⟩) (.lf 11 ⟨.string, 1, 16, [.str []], false, true⟩)) (.nd 13 (.lf 12 ⟨.int .u64, 1, 8, [.int 18446744073709551615 0], false, true⟩) (.lf 13 ⟨.struct [(0, 9), (1, 12)], 2, 24, [.str [], .int 18446744073709551615 0], true, false⟩))) (.nd 16 (.nd 15 (.lf 14 ⟨.struct [(0, 9), (1, 12)], 2, 24, [.str [], .int 18446744073709551615 0], true, false⟩) (.lf 15 ⟨.pointer 307, 1, 8, [.nil], false, false⟩)) (.nd 17 (.lf 16 ⟨.pointer 310, 1, 8, [.nil], false, false⟩) (.nd 18 (.lf 17 ⟨.pointer 318, 1, 8, [.nil], false, false⟩) (.lf 18 ⟨.struct [(0, 17)], 1, 8, [.nil], true, false⟩)))))) (.nd 28 (.nd 23 (.nd 21 (.nd 20 (.lf 19 ⟨.struct [(0, 17)], 1, 8, [.nil], true, false⟩) (.lf 20 ⟨.iface, 1, 16, [.nili], false, false⟩)) (.nd 22 (.lf 21 ⟨.int .i32, 1, 4, [.int 2147483647 0], false, true⟩) (.lf 22 ⟨.int .u64, 1, 8, [.int 18446744073709551615 0], false, true⟩))) (.nd 25 (.nd 24 (.lf 23 ⟨.struct [(0, 22), (1, 22), (2, 22), (3, 22)], 4, 32, [.int 18446744073709551615 0, .int 18446744073709551615 0, .int 18446744073709551615 0, .int 18446744073709551615 0], true, true⟩) (.lf 24 ⟨.struct [(0, 22), (1, 22), (2, 22), (3, 22)], 4, 32, [.int 18446744073709551615 0, .int 18446744073709551615 0, .int 18446744073709551615 0, .int 18446744073709551615 0], true, true⟩)) (.nd 26 (.lf 25 ⟨.func, 1, 8, [.nilf], false, false⟩) (.nd 27 (.lf 26 ⟨.func, 1, 8, [.nilf], false, false⟩) (.lf 27 ⟨.func, 1, 8, [.nilf], false, false⟩))))) (.nd 32 (.nd 30 (.nd 29 (.lf 28 ⟨.slice 92, 1, 24, [.nils], false, false⟩) (.lf 29 ⟨.slice 62, 1, 24, [.nils], false, false⟩)) (.nd 31 (.lf 30 ⟨.struct [(0, 28), (1, 29)], 2, 48, [.nils, .nils], true, false⟩) (.lf 31 ⟨.struct [(0, 28), (1, 29)], 2, 48, [.nils, .nils], true, false⟩))) (.nd 34 (.nd 33 (.lf 32 ⟨.int .i64, 1, 8, [.int 9223372036854775807 0], false, true⟩) (.lf 33 ⟨.struct [(0, 32), (1, 3)], 2, 16, [.int 9223372036854775807 0, .int 9223372036854775807 0], true, true⟩)) (.nd 36 (.lf 34 ⟨.struct [(0, 32), (1, 3)], 2, 16, [.int 9223372036854775807 0, .int 9223372036854775807 0], true, true⟩) (.nd 37 (.lf 36 ⟨.func, 1, 8, [.nilf], false, false⟩) (.lf 37 ⟨.slice 24, 1, 24, [.nils], false, false⟩))))))) (.nd 60 (.nd 49 (.nd 44 (.nd 41 (.nd 40 (.lf 39 ⟨.func, 1, 8, [.nilf], false, false⟩) (.lf 40 ⟨.func, 1, 8, [.nilf], false, false⟩)) (.nd 43 (.lf 41 ⟨.slice 50, 1, 24, [.nils], false, false⟩) (.lf 43 ⟨.func, 1, 8, [.nilf], false, false⟩))) (.nd 46 (.nd 45 (.lf 44 ⟨.pointer 48, 1, 8, [.nil], false, false⟩) (.lf 45 ⟨.struct [(0, 31)], 2, 48, [.nils, .nils], true, false⟩)) (.nd 47 (.lf 46 ⟨.struct [(0, 31)], 2, 48, [.nils, .nils], true, false⟩) (.nd 48 (.lf 47 ⟨.struct [(0, 41), (1, 3), (2, 46), (4, 34)], 6, 96, [.nils, .int 9223372036854775807 0, .nils, .nils, .int 9223372036854775807 0, .int 9223372036854775807 0], true, false⟩) (.lf 48 ⟨.struct [(0, 41), (1, 3), (2, 46), (4, 34)], 6, 96, [.nils, .int 9223372036854775807 0, .nils, .nils, .int 9223372036854775807 0, .int 9223372036854775807 0], true, false⟩))))) (.nd 54 (.nd 51 (.nd 50 (.lf 49 ⟨.struct [(0, 3), (1, 3), (2, 9)], 3, 32, [.int 9223372036854775807 0, .int 9223372036854775807 0, .str []], true, true⟩) (.lf 50 ⟨.struct [(0, 3), (1, 3), (2, 9)], 3, 32, [.int 9223372036854775807 0, .int 9223372036854775807 0, .str []], true, true⟩)) (.nd 53 (.lf 51 ⟨.func, 1, 8, [.nilf], false, false⟩) (.lf 53 ⟨.func, 1, 8, [.nilf], false, false⟩))) (.nd 57 (.nd 56 (.lf 54 ⟨.map 3 144, 1, 8, [.nilm], false, false⟩) (.lf 56 ⟨.func, 1, 8, [.nilf], false, false⟩)) (.nd 58 (.lf 57 ⟨.pointer 60, 1, 8, [.nil], false, false⟩) (.nd 59 (.lf 58 ⟨.slice 4, 1, 24, [.nils], false, false⟩) (.lf 59 ⟨.struct [(0, 31), (2, 54), (3, 37), (4, 58)], 5, 104, [.nils, .nils, .nilm, .nils, .nils], true, false⟩)))))) (.nd 70 (.nd 64 (.nd 62 (.nd 61 (.lf 60 ⟨.struct [(0, 31), (2, 54), (3, 37), (4, 58)], 5, 104, [.nils, .nils, .nilm, .nils, .nils], true, false⟩) (.lf 61 ⟨.struct [(0, 9), (1, 3)], 2, 24, [.str [], .int 9223372036854775807 0], true, true⟩)) (.nd 63 (.lf 62 ⟨.struct [(0, 9), (1, 3)], 2, 24, [.str [], .int 9223372036854775807 0], true, true⟩) (.lf 63 ⟨.func, 1, 8, [.nilf], false, false⟩))) (.nd 66 (.nd 65 (.lf 64 ⟨.func, 1, 8, [.nilf], false, false⟩) (.lf 65 ⟨.func, 1, 8, [.nilf], false, false⟩)) (.nd 67 (.lf 66 ⟨.pointer 68, 1, 8, [.nil], false, false⟩) (.nd 68 (.lf 67 ⟨.struct [(0, 9), (1, 3), (2, 41)], 3, 48, [.str [], .int 9223372036854775807 0, .nils], true, false⟩) (.lf 68 ⟨.struct [(0, 9), (1, 3), (2, 41)], 3, 48, [.str [], .int 9223372036854775807 0, .nils], true, false⟩))))) (.nd 75 (.nd 72 (.nd 71 (.lf 70 ⟨.func, 1, 8, [.nilf], false, false⟩) (.lf 71 ⟨.func, 1, 8, [.nilf], false, false⟩)) (.nd 73 (.lf 72 ⟨.func, 1, 8, [.nilf], false, false⟩) (.nd 74 (.lf 73 ⟨.func, 1, 8, [.nilf], false, false⟩) (.lf 74 ⟨.func, 1, 8, [.nilf], false, false⟩)))) (.nd 77 (.nd 76 (.lf 75 ⟨.func, 1, 8, [.nilf], false, false⟩) (.lf 76 ⟨.pointer 46, 1, 8, [.nil], false, false⟩)) (.nd 78 (.lf 77 ⟨.func, 1, 8, [.nilf], false, false⟩) (.nd 79 (.lf 78 ⟨.func, 1, 8, [.nilf], false, false⟩) (.lf 79 ⟨.pointer 84, 1, 8, [.nil], false, false⟩)))))))) (.nd 120 (.nd 99 (.nd 90 (.nd 85 (.nd 83 (.nd 82 (.lf 81 ⟨.func, 1, 8, [.nilf], false, false⟩) (.lf 82 ⟨.slice 111, 1, 24, [.nils], false, false⟩)) (.nd 84 (.lf 83 ⟨.struct [(0, 31), (2, 82), (3, 58), (4, 54), (5, 34)], 7, 120, [.nils, .nils, .nils, .nils, .nilm, .int 9223372036854775807 0, .int 9223372036854775807 0], true, false⟩) (.lf 84 ⟨.struct [(0, 31), (2, 82), (3, 58), (4, 54), (5, 34)], 7, 120, [.nils, .nils, .nils, .nils, .nilm, .int 9223372036854775807 0, .int 9223372036854775807 0], true, false⟩))) (.nd 87 (.nd 86 (.lf 85 ⟨.slice 3, 1, 24, [.nils], false, false⟩) (.lf 86 ⟨.func, 1, 8, [.nilf], false, false⟩)) (.nd 88 (.lf 87 ⟨.struct [(0, 9), (1, 22), (2, 22)], 3, 32, [.str [], .int 18446744073709551615 0, .int 18446744073709551615 0], true, true⟩) (.nd 89 (.lf 88 ⟨.struct [(0, 9), (1, 22), (2, 22)], 3, 32, [.str [], .int 18446744073709551615 0, .int 18446744073709551615 0], true, true⟩) (.lf 89 ⟨.slice 115, 1, 24, [.nils], false, false⟩))))) (.nd 94 (.nd 92 (.nd 91 (.lf 90 ⟨.slice 117, 1, 24, [.nils], false, false⟩) (.lf 91 ⟨.struct [(0, 3), (1, 3), (2, 4), (3, 4), (4, 4), (5, 22), (6, 22), (7, 9), (8, 88), (11, 85), (12, 58), (13, 89), (14, 9), (15, 22), (16, 90), (17, 3)], 18, 216, [.int 9223372036854775807 0, .int 9223372036854775807 0, .bool false, .bool false, .bool false, .int 18446744073709551615 0, .int 18446744073709551615 0, .str [], .str [], .int 18446744073709551615 0, .int 18446744073709551615 0, .nils, .nils, .nils, .str [], .int 18446744073709551615 0, .nils, .int 9223372036854775807 0], true, false⟩)) (.nd 93 (.lf 92 ⟨.struct [(0, 3), (1, 3), (2, 4), (3, 4), (4, 4), (5, 22), (6, 22), (7, 9), (8, 88), (11, 85), (12, 58), (13, 89), (14, 9), (15, 22), (16, 90), (17, 3)], 18, 216, [.int 9223372036854775807 0, .int 9223372036854775807 0, .bool false, .bool false, .bool false, .int 18446744073709551615 0, .int 18446744073709551615 0, .str [], .str [], .int 18446744073709551615 0, .int 18446744073709551615 0, .nils, .nils, .nils, .str [], .int 18446744073709551615 0, .nils, .int 9223372036854775807 0], true, false⟩) (.lf 93 ⟨.func, 1, 8, [.nilf], false, false⟩))) (.nd 96 (.nd 95 (.lf 94 ⟨.func, 1, 8, [.nilf], false, false⟩) (.lf 95 ⟨.slice 9, 1, 24, [.nils], false, false⟩)) (.nd 97 (.lf 96 ⟨.func, 1, 8, [.nilf], false, false⟩) (.nd 98 (.lf 97 ⟨.func, 1, 8, [.nilf], false, false⟩) (.lf 98 ⟨.func, 1, 8, [.nilf], false, false⟩)))))) (.nd 109 (.nd 104 (.nd 102 (.nd 100 (.lf 99 ⟨.func, 1, 8, [.nilf], false, false⟩) (.lf 100 ⟨.func, 1, 8, [.nilf], false, false⟩)) (.nd 103 (.lf 102 ⟨.func, 1, 8, [.nilf], false, false⟩) (.lf 103 ⟨.func, 1, 8, [.nilf], false, false⟩))) (.nd 106 (.nd 105 (.lf 104 ⟨.func, 1, 8, [.nilf], false, false⟩) (.lf 105 ⟨.func, 1, 8, [.nilf], false, false⟩)) (.nd 107 (.lf 106 ⟨.func, 1, 8, [.nilf], false, false⟩) (.nd 108 (.lf 107 ⟨.func, 1, 8, [.nilf], false, false⟩) (.lf 108 ⟨.array 4 22, 4, 32, [.int 18446744073709551615 0, .int 18446744073709551615 0, .int 18446744073709551615 0, .int 18446744073709551615 0], true, true⟩))))) (.nd 114 (.nd 111 (.nd 110 (.lf 109 ⟨.array 4 22, 4, 32, [.int 18446744073709551615 0, .int 18446744073709551615 0, .int 18446744073709551615 0, .int 18446744073709551615 0], true, true⟩) (.lf 110 ⟨.struct [(0, 109), (4, 4), (5, 4)], 6, 40, [.int 18446744073709551615 0, .int 18446744073709551615 0, .int 18446744073709551615 0, .int 18446744073709551615 0, .bool false, .bool false], true, true⟩)) (.nd 112 (.lf 111 ⟨.struct [(0, 109), (4, 4), (5, 4)], 6, 40, [.int 18446744073709551615 0, .int 18446744073709551615 0, .int 18446744073709551615 0, .int 18446744073709551615 0, .bool false, .bool false], true, true⟩) (.nd 113 (.lf 112 ⟨.func, 1, 8, [.nilf], false, false⟩) (.lf 113 ⟨.func, 1, 8, [.nilf], false, false⟩)))) (.nd 116 (.nd 115 (.lf 114 ⟨.struct [(0, 9), (1, 3), (2, 3), (3, 9), (4, 9)], 5, 64, [.str [], .int 9223372036854775807 0, .int 9223372036854775807 0, .str [], .str []], true, true⟩) (.lf 115 ⟨.struct [(0, 9), (1, 3), (2, 3), (3, 9), (4, 9)], 5, 64, [.str [], .int 9223372036854775807 0, .int 9223372036854775807 0, .str [], .str []], true, true⟩)) (.nd 117 (.lf 116 ⟨.struct [(0, 22), (1, 3)], 2, 16, [.int 18446744073709551615 0, .int 9223372036854775807 0], true, true⟩) (.nd 118 (.lf 117 ⟨.struct [(0, 22), (1, 3)], 2, 16, [.int 18446744073709551615 0, .int 9223372036854775807 0], true, true⟩) (.lf 118 ⟨.func, 1, 8, [.nilf], false, false⟩))))))) (.nd 139 (.nd 130 (.nd 124 (.nd 122 (.nd 121 (.lf 120 ⟨.func, 1, 8, [.nilf], false, false⟩) (.lf 121 ⟨.func, 1, 8, [.nilf], false, false⟩)) (.nd 123 (.lf 122 ⟨.func, 1, 8, [.nilf], false, false⟩) (.lf 123 ⟨.func, 1, 8, [.nilf], false, false⟩))) (.nd 126 (.nd 125 (.lf 124 ⟨.func, 1, 8, [.nilf], false, false⟩) (.lf 125 ⟨.func, 1, 8, [.nilf], false, false⟩)) (.nd 127 (.lf 126 ⟨.array 256 5, 256, 256, frep 256 (.int 255 0), true, true⟩) (.nd 128 (.lf 127 ⟨.func, 1, 8, [.nilf], false, false⟩) (.lf 128 ⟨.func, 1, 8, [.nilf], false, false⟩))))) (.nd 134 (.nd 132 (.nd 131 (.lf 130 ⟨.func, 1, 8, [.nilf], false, false⟩) (.lf 131 ⟨.func, 1, 8, [.nilf], false, false⟩)) (.nd 133 (.lf 132 ⟨.func, 1, 8, [.nilf], false, false⟩) (.lf 133 ⟨.func, 1, 8, [.nilf], false, false⟩))) (.nd 136 (.nd 135 (.lf 134 ⟨.func, 1, 8, [.nilf], false, false⟩) (.lf 135 ⟨.func, 1, 8, [.nilf], false, false⟩)) (.nd 137 (.lf 136 ⟨.func, 1, 8, [.nilf], false, false⟩) (.nd 138 (.lf 137 ⟨.func, 1, 8, [.nilf], false, false⟩) (.lf 138 ⟨.func, 1, 8, [.nilf], false, false⟩)))))) (.nd 149 (.nd 144 (.nd 141 (.nd 140 (.lf 139 ⟨.func, 1, 8, [.nilf], false, false⟩) (.lf 140 ⟨.func, 1, 8, [.nilf], false, false⟩)) (.nd 143 (.lf 141 ⟨.pointer 164, 1, 8, [.nil], false, false⟩) (.lf 143 ⟨.func, 1, 8, [.nilf], false, false⟩))) (.nd 146 (.nd 145 (.lf 144 ⟨.pointer 148, 1, 8, [.nil], false, false⟩) (.lf 145 ⟨.map 3 4, 1, 8, [.nilm], false, false⟩)) (.nd 147 (.lf 146 ⟨.slice 85, 1, 24, [.nils], false, false⟩) (.nd 148 (.lf 147 ⟨.struct [(0, 126), (256, 146), (257, 58)], 258, 304, [.int 255 0, .int 255 0, .int 255 0, .int 255 0, .int 255 0, .int 255 0, .int 255 0, .int 255 0, .int 255 0, .int 255 0, .int 255 0, .int 255 0, .int 255 0, .int 255 0, .int 255 0, .int 255 0, .int 255 0, .int 255 0, .int 255 0, .int 255 0, .int 255 0, .int 255 0, .int 255 0, .int 255 0, .int 255 0, .int 255 0, .int 255 0, .int 255 0, .int 255 0, .int 255 0, .int 255 0, .int 255 0, .int 255 0, .int 255 0, .int 255 0, .int 255 0, .int 255 0, .int 255 0, .int 255 0, .int 255 0, .int 255 0, .int 255 0, .int 255 0, .int 255 0, .int 255 0, .int 255 0, .int 255 0, .int 255 0, .int 255 0, .int 255 0, .int 255 0, .int 255 0, .int 255 0, .int 255 0, .int 255 0, .int 255 0, .int 255 0, .int 255 0, .int 255 0, .int 255 0, .int 255 0, .int 255 0, .int 255 0, .int 255 0, .int 255 0, .int 255 0, .int 255 0, .int 255 0, .int 255 0, .int 255 0, .int 255 0, .int 255 0, .int 255 0, .int 255 0, .int 255 0, .int 255 0, .int 255 0, .int 255 0, .int 255 0, .int 255 0, .int 255 0, .int 255 0, .int 255 0, .int 255 0, .int 255 0, .int 255 0, .int 255 0, .int 255 0, .int 255 0, .int 255 0, .int 255 0, .int 255 0, .int 255 0, .int 255 0, .int 255 0, .int 255 0, .int 255 0, .int 255 0, .int 255 0, .int 255 0, .int 255 0, .int 255 0, .int 255 0, .int 255 0, .int 255 0, .int 255 0, .int 255 0, .int 255 0, .int 255 0, .int 255 0, .int 255 0, .int 255 0, .int 255 0, .int 255 0, .int 255 0, .int 255 0, .int 255 0, .int 255 0, .int 255 0, .int 255 0, .int 255 0, .int 255 0, .int 255 0, .int 255 0, .int 255 0, .int 255 0, .int 255 0, .int 255 0, .int 255 0, .int 255 0, .int 255 0, .int 255 0, .int 255 0, .int 255 0, .int 255 0, .int 255 0, .int 255 0, .int 255 0, .int 255 0, .int 255 0, .int 255 0, .int 255 0, .int 255 0, .int 255 0, .int 255 0, .int 255 0, .int 255 0, .int 255 0, .int 255 0, .int 255 0, .int 255 0, .int 255 0, .int 255 0, .int 255 0, .int 255 0, .int 255 0, .int 255 0, .int 255 0, .int 255 0, .int 255 0, .int 255 0, .int 255 0, .int 255 0, .int 255 0, .int 255 0, .int 255 0, .int 255 0, .int 255 0, .int 255 0, .int 255 0, .int 255 0, .int 255 0, .int 255 0, .int 255 0, .int 255 0, .int 255 0, .int 255 0, .int 255 0, .int 255 0, .int 255 0, .int 255 0, .int 255 0, .int 255 0, .int 255 0, .int 255 0, .int 255 0, .int 255 0, .int 255 0, .int 255 0, .int 255 0, .int 255 0, .int 255 0, .int 255 0, .int 255 0, .int 255 0, .int 255 0, .int 255 0, .int 255 0, .int 255 0, .int 255 0, .int 255 0, .int 255 0, .int 255 0, .int 255 0, .int 255 0, .int 255 0, .int 255 0, .int 255 0, .int 255 0, .int 255 0, .int 255 0, .int 255 0, .int 255 0, .int 255 0, .int 255 0, .int 255 0, .int 255 0, .int 255 0, .int 255 0, .int 255 0, .int 255 0, .int 255 0, .int 255 0, .int 255 0, .int 255 0, .int 255 0, .int 255 0, .int 255 0, .int 255 0, .int 255 0, .int 255 0, .int 255 0, .int 255 0, .int 255 0, .int 255 0, .int 255 0, .int 255 0, .int 255 0, .int 255 0, .int 255 0, .int 255 0, .int 255 0, .int 255 0, .int 255 0, .int 255 0, .int 255 0, .int 255 0, .int 255 0, .int 255 0, .int 255 0, .int 255 0, .int 255 0, .int 255 0, .int 255 0, .int 255 0, .int 255 0, .nils, .nils], true, false⟩) (.lf 148 ⟨.struct [(0, 126), (256, 146), (257, 58)], 258, 304, [.int 255 0, .int 255 0, .int 255 0, .int 255 0, .int 255 0, .int 255 0, .int 255 0, .int 255 0, .int 255 0, .int 255 0, .int 255 0, .int 255 0, .int 255 0, .int 255 0, .int 255 0, .int 255 0, .int 255 0, .int 255 0, .int 255 0, .int 255 0, .int 255 0, .int 255 0, .int 255 0, .int 255 0, .int 255 0, .int 255 0, .int 255 0, .int 255 0, .int 255 0, .int 255 0, .int 255 0, .int 255 0, .int 255 0, .int 255 0, .int 255 0, .int 255 0, .int 255 0, .int 255 0, .int 255 0, .int 255 0, .int 255 0, .int 255 0, .int 255 0, .int 255 0, .int 255 0, .int 255 0, .int 255 0, .int 255 0, .int 255 0, .int 255 0, .int 255 0, .int 255 0, .int 255 0, .int 255 0, .int 255 0, .int 255 0, .int 255 0, .int 255 0, .int 255 0, .int 255 0, .int 255 0, .int 255 0, .int 255 0, .int 255 0, .int 255 0, .int 255 0, .int 255 0, .int 255 0, .int 255 0, .int 255 0, .int 255 0, .int 255 0, .int 255 0, .int 255 0, .int 255 0, .int 255 0, .int 255 0, .int 255 0, .int 255 0, .int 255 0, .int 255 0, .int 255 0, .int 255 0, .int 255 0, .int 255 0, .int 255 0, .int 255 0, .int 255 0, .int 255 0, .int 255 0, .int 255 0, .int 255 0, .int 255 0, .int 255 0, .int 255 0, .int 255 0, .int 255 0, .int 255 0, .int 255 0, .int 255 0, .int 255 0, .int 255 0, .int 255 0, .int 255 0, .int 255 0, .int 255 0, .int 255 0, .int 255 0, .int 255 0, .int 255 0, .int 255 0, .int 255 0, .int 255 0, .int 255 0, .int 255 0, .int 255 0, .int 255 0, .int 255 0, .int 255 0, .int 255 0, .int 255 0, .int 255 0, .int 255 0, .int 255 0, .int 255 0, .int 255 0, .int 255 0, .int 255 0, .int 255 0, .int 255 0, .int 255 0, .int 255 0, .int 255 0, .int 255 0, .int 255 0, .int 255 0, .int 255 0, .int 255 0, .int 255 0, .int 255 0, .int 255 0, .int 255 0, .int 255 0, .int 255 0, .int 255 0, .int 255 0, .int 255 0, .int 255 0, .int 255 0, .int 255 0, .int 255 0, .int 255 0, .int 255 0, .int 255 0, .int 255 0, .int 255 0, .int 255 0, .int 255 0, .int 255 0, .int 255 0, .int 255 0, .int 255 0, .int 255 0, .int 255 0, .int 255 0, .int 255 0, .int 255 0, .int 255 0, .int 255 0, .int 255 0, .int 255 0, .int 255 0, .int 255 0, .int 255 0, .int 255 0, .int 255 0, .int 255 0, .int 255 0, .int 255 0, .int 255 0, .int 255 0, .int 255 0, .int 255 0, .int 255 0, .int 255 0, .int 255 0, .int 255 0, .int 255 0, .int 255 0, .int 255 0, .int 255 0, .int 255 0, .int 255 0, .int 255 0, .int 255 0, .int 255 0, .int 255 0, .int 255 0, .int 255 0, .int 255 0, .int 255 0, .int 255 0, .int 255 0, .int 255 0, .int 255 0, .int 255 0, .int 255 0, .int 255 0, .int 255 0, .int 255 0, .int 255 0, .int 255 0, .int 255 0, .int 255 0, .int 255 0, .int 255 0, .int 255 0, .int 255 0, .int 255 0, .int 255 0, .int 255 0, .int 255 0, .int 255 0, .int 255 0, .int 255 0, .int 255 0, .int 255 0, .int 255 0, .int 255 0, .int 255 0, .int 255 0, .int 255 0, .int 255 0, .int 255 0, .int 255 0, .int 255 0, .int 255 0, .int 255 0, .int 255 0, .int 255 0, .int 255 0, .int 255 0, .int 255 0, .int 255 0, .int 255 0, .int 255 0, .int 255 0, .int 255 0, .int 255 0, .int 255 0, .int 255 0, .int 255 0, .int 255 0, .int 255 0, .int 255 0, .int 255 0, .nils, .nils], true, false⟩))))) (.nd 154 (.nd 151 (.nd 150 (.lf 149 ⟨.func, 1, 8, [.nilf], false, false⟩) (.lf 150 ⟨.func, 1, 8, [.nilf], false, false⟩)) (.nd 152 (.lf 151 ⟨.slice 153, 1, 24, [.nils], false, false⟩) (.nd 153 (.lf 152 ⟨.struct [(0, 3), (1, 3)], 2, 16, [.int 9223372036854775807 0, .int 9223372036854775807 0], true, true⟩) (.lf 153 ⟨.struct [(0, 3), (1, 3)], 2, 16, [.int 9223372036854775807 0, .int 9223372036854775807 0], true, true⟩)))) (.nd 156 (.nd 155 (.lf 154 ⟨.int .u32, 1, 4, [.int 4294967295 0], false, true⟩) (.lf 155 ⟨.func, 1, 8, [.nilf], false, false⟩)) (.nd 157 (.lf 156 ⟨.pointer 175, 1, 8, [.nil], false, false⟩) (.nd 158 (.lf 157 ⟨.func, 1, 8, [.nilf], false, false⟩) (.lf 158 ⟨.func, 1, 8, [.nilf], false, false⟩))))))))) (.nd 241 (.nd 198 (.nd 178 (.nd 169 (.nd 164 (.nd 162 (.nd 161 (.lf 160 ⟨.func, 1, 8, [.nilf], false, false⟩) (.lf 161 ⟨.func, 1, 8, [.nilf], false, false⟩)) (.nd 163 (.lf 162 ⟨.map 3 198, 1, 8, [.nilm], false, false⟩) (.lf 163 ⟨.struct [(0, 31), (2, 162)], 3, 56, [.nils, .nils, .nilm], true, false⟩))) (.nd 166 (.nd 165 (.lf 164 ⟨.struct [(0, 31), (2, 162)], 3, 56, [.nils, .nils, .nilm], true, false⟩) (.lf 165 ⟨.func, 1, 8, [.nilf], false, false⟩)) (.nd 167 (.lf 166 ⟨.func, 1, 8, [.nilf], false, false⟩) (.nd 168 (.lf 167 ⟨.func, 1, 8, [.nilf], false, false⟩) (.lf 168 ⟨.func, 1, 8, [.nilf], false, false⟩))))) (.nd 173 (.nd 171 (.nd 170 (.lf 169 ⟨.int .u64, 1, 8, [.int 18446744073709551615 0], false, true⟩) (.lf 170 ⟨.func, 1, 8, [.nilf], false, false⟩)) (.nd 172 (.lf 171 ⟨.func, 1, 8, [.nilf], false, false⟩) (.lf 172 ⟨.slice 178, 1, 24, [.nils], false, false⟩))) (.nd 175 (.nd 174 (.lf 173 ⟨.slice 181, 1, 24, [.nils], false, false⟩) (.lf 174 ⟨.struct [(0, 172), (1, 173), (2, 3)], 3, 56, [.nils, .nils, .int 9223372036854775807 0], true, false⟩)) (.nd 176 (.lf 175 ⟨.struct [(0, 172), (1, 173), (2, 3)], 3, 56, [.nils, .nils, .int 9223372036854775807 0], true, false⟩) (.nd 177 (.lf 176 ⟨.int .u16, 1, 2, [.int 65535 0], false, true⟩) (.lf 177 ⟨.struct [(0, 176), (1, 176), (2, 176)], 3, 6, [.int 65535 0, .int 65535 0, .int 65535 0], true, true⟩)))))) (.nd 187 (.nd 182 (.nd 180 (.nd 179 (.lf 178 ⟨.struct [(0, 176), (1, 176), (2, 176)], 3, 6, [.int 65535 0, .int 65535 0, .int 65535 0], true, true⟩) (.lf 179 ⟨.func, 1, 8, [.nilf], false, false⟩)) (.nd 181 (.lf 180 ⟨.struct [(0, 154), (1, 154), (2, 154)], 3, 12, [.int 4294967295 0, .int 4294967295 0, .int 4294967295 0], true, true⟩) (.lf 181 ⟨.struct [(0, 154), (1, 154), (2, 154)], 3, 12, [.int 4294967295 0, .int 4294967295 0, .int 4294967295 0], true, true⟩))) (.nd 184 (.nd 183 (.lf 182 ⟨.func, 1, 8, [.nilf], false, false⟩) (.lf 183 ⟨.func, 1, 8, [.nilf], false, false⟩)) (.nd 185 (.lf 184 ⟨.func, 1, 8, [.nilf], false, false⟩) (.nd 186 (.lf 185 ⟨.pointer 188, 1, 8, [.nil], false, false⟩) (.lf 186 ⟨.map 9 3, 1, 8, [.nilm], false, false⟩))))) (.nd 192 (.nd 190 (.nd 188 (.lf 187 ⟨.struct [(0, 31), (2, 186)], 3, 56, [.nils, .nils, .nilm], true, false⟩) (.lf 188 ⟨.struct [(0, 31), (2, 186)], 3, 56, [.nils, .nils, .nilm], true, false⟩)) (.nd 191 (.lf 190 ⟨.func, 1, 8, [.nilf], false, false⟩) (.lf 191 ⟨.slice 194, 1, 24, [.nils], false, false⟩))) (.nd 194 (.nd 193 (.lf 192 ⟨.array 2 9, 2, 32, [.str [], .str []], true, true⟩) (.lf 193 ⟨.struct [(0, 9), (1, 3), (2, 3), (3, 4)], 4, 40, [.str [], .int 9223372036854775807 0, .int 9223372036854775807 0, .bool false], true, true⟩)) (.nd 196 (.lf 194 ⟨.struct [(0, 9), (1, 3), (2, 3), (3, 4)], 4, 40, [.str [], .int 9223372036854775807 0, .int 9223372036854775807 0, .bool false], true, true⟩) (.nd 197 (.lf 196 ⟨.func, 1, 8, [.nilf], false, false⟩) (.lf 197 ⟨.struct [(0, 3), (1, 3), (2, 3)], 3, 24, [.int 9223372036854775807 0, .int 9223372036854775807 0, .int 9223372036854775807 0], true, true⟩))))))) (.nd 218 (.nd 209 (.nd 202 (.nd 200 (.nd 199 (.lf 198 ⟨.struct [(0, 3), (1, 3), (2, 3)], 3, 24, [.int 9223372036854775807 0, .int 9223372036854775807 0, .int 9223372036854775807 0], true, true⟩) (.lf 199 ⟨.func, 1, 8, [.nilf], false, false⟩)) (.nd 201 (.lf 200 ⟨.func, 1, 8, [.nilf], false, false⟩) (.lf 201 ⟨.func, 1, 8, [.nilf], false, false⟩))) (.nd 204 (.nd 203 (.lf 202 ⟨.slice 204, 1, 24, [.nils], false, false⟩) (.lf 203 ⟨.struct [(0, 3), (1, 108), (5, 202), (6, 3), (7, 3)], 8, 80, [.int 9223372036854775807 0, .int 18446744073709551615 0, .int 18446744073709551615 0, .int 18446744073709551615 0, .int 18446744073709551615 0, .nils, .int 9223372036854775807 0, .int 9223372036854775807 0], true, false⟩)) (.nd 206 (.lf 204 ⟨.struct [(0, 3), (1, 108), (5, 202), (6, 3), (7, 3)], 8, 80, [.int 9223372036854775807 0, .int 18446744073709551615 0, .int 18446744073709551615 0, .int 18446744073709551615 0, .int 18446744073709551615 0, .nils, .int 9223372036854775807 0, .int 9223372036854775807 0], true, false⟩) (.nd 207 (.lf 206 ⟨.func, 1, 8, [.nilf], false, false⟩) (.lf 207 ⟨.func, 1, 8, [.nilf], false, false⟩))))) (.nd 213 (.nd 211 (.nd 210 (.lf 209 ⟨.func, 1, 8, [.nilf], false, false⟩) (.lf 210 ⟨.func, 1, 8, [.nilf], false, false⟩)) (.nd 212 (.lf 211 ⟨.func, 1, 8, [.nilf], false, false⟩) (.lf 212 ⟨.map 22 4, 1, 8, [.nilm], false, false⟩))) (.nd 215 (.nd 214 (.lf 213 ⟨.pointer 178, 1, 8, [.nil], false, false⟩) (.lf 214 ⟨.pointer 181, 1, 8, [.nil], false, false⟩)) (.nd 216 (.lf 215 ⟨.func, 1, 8, [.nilf], false, false⟩) (.nd 217 (.lf 216 ⟨.array 24 5, 24, 24, frep 24 (.int 255 0), true, true⟩) (.lf 217 ⟨.func, 1, 8, [.nilf], false, false⟩)))))) (.nd 228 (.nd 223 (.nd 221 (.nd 220 (.lf 218 ⟨.slice 5, 1, 24, [.nils], false, false⟩) (.lf 220 ⟨.func, 1, 8, [.nilf], false, false⟩)) (.nd 222 (.lf 221 ⟨.func, 1, 8, [.nilf], false, false⟩) (.lf 222 ⟨.func, 1, 8, [.nilf], false, false⟩))) (.nd 225 (.nd 224 (.lf 223 ⟨.pointer 225, 1, 8, [.nil], false, false⟩) (.lf 224 ⟨.struct [(0, 9), (1, 3), (2, 3), (3, 34)], 5, 48, [.str [], .int 9223372036854775807 0, .int 9223372036854775807 0, .int 9223372036854775807 0, .int 9223372036854775807 0], true, true⟩)) (.nd 226 (.lf 225 ⟨.struct [(0, 9), (1, 3), (2, 3), (3, 34)], 5, 48, [.str [], .int 9223372036854775807 0, .int 9223372036854775807 0, .int 9223372036854775807 0, .int 9223372036854775807 0], true, true⟩) (.nd 227 (.lf 226 ⟨.func, 1, 8, [.nilf], false, false⟩) (.lf 227 ⟨.slice 276, 1, 24, [.nils], false, false⟩))))) (.nd 235 (.nd 231 (.nd 229 (.lf 228 ⟨.struct [(0, 227), (1, 3)], 2, 32, [.nils, .int 9223372036854775807 0], true, false⟩) (.lf 229 ⟨.struct [(0, 227), (1, 3)], 2, 32, [.nils, .int 9223372036854775807 0], true, false⟩)) (.nd 232 (.lf 231 ⟨.func, 1, 8, [.nilf], false, false⟩) (.nd 233 (.lf 232 ⟨.func, 1, 8, [.nilf], false, false⟩) (.lf 233 ⟨.func, 1, 8, [.nilf], false, false⟩)))) (.nd 237 (.nd 236 (.lf 235 ⟨.func, 1, 8, [.nilf], false, false⟩) (.lf 236 ⟨.func, 1, 8, [.nilf], false, false⟩)) (.nd 239 (.lf 237 ⟨.func, 1, 8, [.nilf], false, false⟩) (.nd 240 (.lf 239 ⟨.func, 1, 8, [.nilf], false, false⟩) (.lf 240 ⟨.func, 1, 8, [.nilf], false, false⟩)))))))) (.nd 280 (.nd 260 (.nd 250 (.nd 245 (.nd 243 (.nd 242 (.lf 241 ⟨.array 20 22, 20, 160, frep 20 (.int 18446744073709551615 0), true, true⟩) (.lf 242 ⟨.array 65 5, 65, 65, frep 65 (.int 255 0), true, true⟩)) (.nd 244 (.lf 243 ⟨.func, 1, 8, [.nilf], false, false⟩) (.lf 244 ⟨.func, 1, 8, [.nilf], false, false⟩))) (.nd 247 (.nd 246 (.lf 245 ⟨.func, 1, 8, [.nilf], false, false⟩) (.lf 246 ⟨.func, 1, 8, [.nilf], false, false⟩)) (.nd 248 (.lf 247 ⟨.func, 1, 8, [.nilf], false, false⟩) (.nd 249 (.lf 248 ⟨.pointer 250, 1, 8, [.nil], false, false⟩) (.lf 249 ⟨.struct [(0, 229), (2, 4)], 3, 40, [.nils, .int 9223372036854775807 0, .bool false], true, false⟩))))) (.nd 254 (.nd 252 (.nd 251 (.lf 250 ⟨.struct [(0, 229), (2, 4)], 3, 40, [.nils, .int 9223372036854775807 0, .bool false], true, false⟩) (.lf 251 ⟨.func, 1, 8, [.nilf], false, false⟩)) (.nd 253 (.lf 252 ⟨.slice 109, 1, 24, [.nils], false, false⟩) (.lf 253 ⟨.func, 1, 8, [.nilf], false, false⟩))) (.nd 256 (.nd 255 (.lf 254 ⟨.func, 1, 8, [.nilf], false, false⟩) (.lf 255 ⟨.func, 1, 8, [.nilf], false, false⟩)) (.nd 257 (.lf 256 ⟨.func, 1, 8, [.nilf], false, false⟩) (.nd 259 (.lf 257 ⟨.func, 1, 8, [.nilf], false, false⟩) (.lf 259 ⟨.func, 1, 8, [.nilf], false, false⟩)))))) (.nd 270 (.nd 264 (.nd 262 (.nd 261 (.lf 260 ⟨.func, 1, 8, [.nilf], false, false⟩) (.lf 261 ⟨.func, 1, 8, [.nilf], false, false⟩)) (.nd 263 (.lf 262 ⟨.map 3 3, 1, 8, [.nilm], false, false⟩) (.lf 263 ⟨.func, 1, 8, [.nilf], false, false⟩))) (.nd 267 (.nd 266 (.lf 264 ⟨.func, 1, 8, [.nilf], false, false⟩) (.lf 266 ⟨.func, 1, 8, [.nilf], false, false⟩)) (.nd 268 (.lf 267 ⟨.func, 1, 8, [.nilf], false, false⟩) (.nd 269 (.lf 268 ⟨.func, 1, 8, [.nilf], false, false⟩) (.lf 269 ⟨.pointer 3, 1, 8, [.nil], false, false⟩))))) (.nd 275 (.nd 272 (.nd 271 (.lf 270 ⟨.func, 1, 8, [.nilf], false, false⟩) (.lf 271 ⟨.struct [(0, 3), (1, 109), (5, 4)], 6, 48, [.int 9223372036854775807 0, .int 18446744073709551615 0, .int 18446744073709551615 0, .int 18446744073709551615 0, .int 18446744073709551615 0, .bool false], true, true⟩)) (.nd 273 (.lf 272 ⟨.struct [(0, 3), (1, 109), (5, 4)], 6, 48, [.int 9223372036854775807 0, .int 18446744073709551615 0, .int 18446744073709551615 0, .int 18446744073709551615 0, .int 18446744073709551615 0, .bool false], true, true⟩) (.nd 274 (.lf 273 ⟨.array 2 109, 8, 64, [.int 18446744073709551615 0, .int 18446744073709551615 0, .int 18446744073709551615 0, .int 18446744073709551615 0, .int 18446744073709551615 0, .int 18446744073709551615 0, .int 18446744073709551615 0, .int 18446744073709551615 0], true, true⟩) (.lf 274 ⟨.func, 1, 8, [.nilf], false, false⟩)))) (.nd 277 (.nd 276 (.lf 275 ⟨.map 109 4, 1, 8, [.nilm], false, false⟩) (.lf 276 ⟨.slice 272, 1, 24, [.nils], false, false⟩)) (.nd 278 (.lf 277 ⟨.func, 1, 8, [.nilf], false, false⟩) (.nd 279 (.lf 278 ⟨.func, 1, 8, [.nilf], false, false⟩) (.lf 279 ⟨.func, 1, 8, [.nilf], false, false⟩))))))) (.nd 300 (.nd 290 (.nd 285 (.nd 282 (.nd 281 (.lf 280 ⟨.map 9 5, 1, 8, [.nilm], false, false⟩) (.lf 281 ⟨.array 32 5, 32, 32, frep 32 (.int 255 0), true, true⟩)) (.nd 284 (.lf 282 ⟨.array 64 5, 64, 64, frep 64 (.int 255 0), true, true⟩) (.lf 284 ⟨.func, 1, 8, [.nilf], false, false⟩))) (.nd 287 (.nd 286 (.lf 285 ⟨.func, 1, 8, [.nilf], false, false⟩) (.lf 286 ⟨.func, 1, 8, [.nilf], false, false⟩)) (.nd 288 (.lf 287 ⟨.func, 1, 8, [.nilf], false, false⟩) (.nd 289 (.lf 288 ⟨.func, 1, 8, [.nilf], false, false⟩) (.lf 289 ⟨.func, 1, 8, [.nilf], false, false⟩))))) (.nd 294 (.nd 292 (.nd 291 (.lf 290 ⟨.func, 1, 8, [.nilf], false, false⟩) (.lf 291 ⟨.func, 1, 8, [.nilf], false, false⟩)) (.nd 293 (.lf 292 ⟨.func, 1, 8, [.nilf], false, false⟩) (.lf 293 ⟨.func, 1, 8, [.nilf], false, false⟩))) (.nd 297 (.nd 296 (.lf 294 ⟨.int .i64, 1, 8, [.int 9223372036854775807 0], false, true⟩) (.lf 296 ⟨.func, 1, 8, [.nilf], false, false⟩)) (.nd 298 (.lf 297 ⟨.func, 1, 8, [.nilf], false, false⟩) (.nd 299 (.lf 298 ⟨.func, 1, 8, [.nilf], false, false⟩) (.lf 299 ⟨.func, 1, 8, [.nilf], false, false⟩)))))) (.nd 309 (.nd 304 (.nd 302 (.nd 301 (.lf 300 ⟨.int .u64, 1, 8, [.int 18446744073709551615 0], false, true⟩) (.lf 301 ⟨.func, 1, 8, [.nilf], false, false⟩)) (.nd 303 (.lf 302 ⟨.func, 1, 8, [.nilf], false, false⟩) (.lf 303 ⟨.func, 1, 8, [.nilf], false, false⟩))) (.nd 306 (.nd 305 (.lf 304 ⟨.pointer 300, 1, 8, [.nil], false, false⟩) (.lf 305 ⟨.func, 1, 8, [.nilf], false, false⟩)) (.nd 307 (.lf 306 ⟨.struct [(0, 17), (1, 17), (2, 17), (3, 9)], 4, 40, [.nil, .nil, .nil, .str []], true, false⟩) (.nd 308 (.lf 307 ⟨.struct [(0, 17), (1, 17), (2, 17), (3, 9)], 4, 40, [.nil, .nil, .nil, .str []], true, false⟩) (.lf 308 ⟨.array 0 16, 0, 0, [], true, false⟩))))) (.nd 314 (.nd 311 (.nd 310 (.lf 309 ⟨.struct [(0, 308)], 0, 0, [], true, false⟩) (.lf 310 ⟨.struct [(0, 308)], 0, 0, [], true, false⟩)) (.nd 312 (.lf 311 ⟨.int .u8, 1, 1, [.int 255 0], false, true⟩) (.nd 313 (.lf 312 ⟨.int .u8, 1, 1, [.int 255 0], false, true⟩) (.lf 313 ⟨.func, 1, 8, [.nilf], false, false⟩)))) (.nd 316 (.nd 315 (.lf 314 ⟨.pointer 5, 1, 8, [.nil], false, false⟩) (.lf 315 ⟨.int .i32, 1, 4, [.int 2147483647 0], false, true⟩)) (.nd 317 (.lf 316 ⟨.int .i32, 1, 4, [.int 2147483647 0], false, true⟩) (.nd 318 (.lf 317 ⟨.struct [(0, 12), (1, 12), (2, 154), (3, 311), (4, 5), (5, 5), (6, 312), (7, 313), (8, 314), (9, 315), (10, 316)], 11, 48, [.int 18446744073709551615 0, .int 18446744073709551615 0, .int 4294967295 0, .int 255 0, .int 255 0, .int 255 0, .int 255 0, .nilf, .nil, .int 2147483647 0, .int 2147483647 0], true, false⟩) (.lf 318 ⟨.struct [(0, 12), (1, 12), (2, 154), (3, 311), (4, 5), (5, 5), (6, 312), (7, 313), (8, 314), (9, 315), (10, 316)], 11, 48, [.int 18446744073709551615 0, .int 18446744073709551615 0, .int 4294967295 0, .int 255 0, .int 255 0, .int 255 0, .int 255 0, .nilf, .nil, .int 2147483647 0, .int 2147483647 0], true, false⟩))))))))))
noncomputable def fnT : BT Func := (.nd 132 (.nd 66 (.nd 33 (.nd 16 (.nd 8 (.nd 4 (.nd 2 (.nd 1 (.lf 0 Tryz.f0) (.lf 1 Tryz.f1)) (.nd 3 (.lf 2 Tryz.f2) (.lf 3 Tryz.f3))) (.nd 6 (.nd 5 (.lf 4 Tryz.f4) (.lf 5 Tryz.f5)) (.nd 7 (.lf 6 Tryz.f6) (.lf 7 Tryz.f7)))) (.nd 12 (.nd 10 (.nd 9 (.lf 8 Tryz.f8) (.lf 9 Tryz.f9)) (.nd 11 (.lf 10 Tryz.f10) (.lf 11 Tryz.f11))) (.nd 14 (.nd 13 (.lf 12 Tryz.f12) (.lf 13 Tryz.f13)) (.nd 15 (.lf 14 Tryz.f14) (.lf 15 Tryz.f15))))) (.nd 24 (.nd 20 (.nd 18 (.nd 17 (.lf 16 Tryz.f16) (.lf 17 Tryz.f17)) (.nd 19 (.lf 18 Tryz.f18) (.lf 19 Tryz.f19))) (.nd 22 (.nd 21 (.lf 20 Tryz.f20) (.lf 21 Tryz.f21)) (.nd 23 (.lf 22 Tryz.f22) (.lf 23 Tryz.f23)))) (.nd 28 (.nd 26 (.nd 25 (.lf 24 Tryz.f24) (.lf 25 Tryz.f25)) (.nd 27 (.lf 26 Tryz.f26) (.lf 27 Tryz.f27))) (.nd 30 (.nd 29 (.lf 28 Tryz.f28) (.lf 29 Tryz.f29)) (.nd 31 (.lf 30 Tryz.f30) (.nd 32 (.lf 31 Tryz.f31) (.lf 32 Tryz.f32))))))) (.nd 49 (.nd 41 (.nd 37 (.nd 35 (.nd 34 (.lf 33 Tryz.f33) (.lf 34 Tryz.f34)) (.nd 36 (.lf 35 Tryz.f35) (.lf 36 Tryz.f36))) (.nd 39 (.nd 38 (.lf 37 Tryz.f37) (.lf 38 Tryz.f38)) (.nd 40 (.lf 39 Tryz.f39) (.lf 40 Tryz.f40)))) (.nd 45 (.nd 43 (.nd 42 (.lf 41 Tryz.f41) (.lf 42 Tryz.f42)) (.nd 44 (.lf 43 Tryz.f43) (.lf 44 Tryz.f44))) (.nd 47 (.nd 46 (.lf 45 Tryz.f45) (.lf 46 Tryz.f46)) (.nd 48 (.lf 47 Tryz.f47) (.lf 48 Tryz.f48))))) (.nd 57 (.nd 53 (.nd 51 (.nd 50 (.lf 49 Tryz.f49) (.lf 50 Tryz.f50)) (.nd 52 (.lf 51 Tryz.f51) (.lf 52 Tryz.f52))) (.nd 55 (.nd 54 (.lf 53 Tryz.f53) (.lf 54 Tryz.f54)) (.nd 56 (.lf 55 Tryz.f55) (.lf 56 Tryz.f56)))) (.nd 61 (.nd 59 (.nd 58 (.lf 57 Tryz.f57) (.lf 58 Tryz.f58)) (.nd 60 (.lf 59 Tryz.f59) (.lf 60 Tryz.f60))) (.nd 63 (.nd 62 (.lf 61 Tryz.f61) (.lf 62 Tryz.f62)) (.nd 64 (.lf 63 Tryz.f63) (.nd 65 (.lf 64 Tryz.f64) (.lf 65 Tryz.f65)))))))) (.nd 99 (.nd 82 (.nd 74 (.nd 70 (.nd 68 (.nd 67 (.lf 66 Tryz.f66) (.lf 67 Tryz.f67)) (.nd 69 (.lf 68 Tryz.f68) (.lf 69 Tryz.f69))) (.nd 72 (.nd 71 (.lf 70 Tryz.f70) (.lf 71 Tryz.f71)) (.nd 73 (.lf 72 Tryz.f72) (.lf 73 Tryz.f73)))) (.nd 78 (.nd 76 (.nd 75 (.lf 74 Tryz.f74) (.lf 75 Tryz.f75)) (.nd 77 (.lf 76 Tryz.f76) (.lf 77 Tryz.f77))) (.nd 80 (.nd 79 (.lf 78 Tryz.f78) (.lf 79 Tryz.f79)) (.nd 81 (.lf 80 Tryz.f80) (.lf 81 Tryz.f81))))) (.nd 90 (.nd 86 (.nd 84 (.nd 83 (.lf 82 Tryz.f82) (.lf 83 Tryz.f83)) (.nd 85 (.lf 84 Tryz.f84) (.lf 85 Tryz.f85))) (.nd 88 (.nd 87 (.lf 86 Tryz.f86) (.lf 87 Tryz.f87)) (.nd 89 (.lf 88 Tryz.f88) (.lf 89 Tryz.f89)))) (.nd 94 (.nd 92 (.nd 91 (.lf 90 Tryz.f90) (.lf 91 Tryz.f91)) (.nd 93 (.lf 92 Tryz.f92) (.lf 93 Tryz.f93))) (.nd 96 (.nd 95 (.lf 94 Tryz.f94) (.lf 95 Tryz.f95)) (.nd 97 (.lf 96 Tryz.f96) (.nd 98 (.lf 97 Tryz.f97) (.lf 98 Tryz.f98))))))) (.nd 115 (.nd 107 (.nd 103 (.nd 101 (.nd 100 (.lf 99 Tryz.f99) (.lf 100 Tryz.f100)) (.nd 102 (.lf 101 Tryz.f101) (.lf 102 Tryz.f102))) (.nd 105 (.nd 104 (.lf 103 Tryz.f103) (.lf 104 Tryz.f104)) (.nd 106 (.lf 105 Tryz.f105) (.lf 106 Tryz.f106)))) (.nd 111 (.nd 109 (.nd 108 (.lf 107 Tryz.f107) (.lf 108 Tryz.f108)) (.nd 110 (.lf 109 Tryz.f109) (.lf 110 Tryz.f110))) (.nd 113 (.nd 112 (.lf 111 Tryz.f111) (.lf 112 Tryz.f112)) (.nd 114 (.lf 113 Tryz.f113) (.lf 114 Tryz.f114))))) (.nd 123 (.nd 119 (.nd 117 (.nd 116 (.lf 115 Tryz.f115) (.lf 116 Tryz.f116)) (.nd 118 (.lf 117 Tryz.f117) (.lf 118 Tryz.f118))) (.nd 121 (.nd 120 (.lf 119 Tryz.f119) (.lf 120 Tryz.f120)) (.nd 122 (.lf 121 Tryz.f121) (.lf 122 Tryz.f122)))) (.nd 127 (.nd 125 (.nd 124 (.lf 123 Tryz.f123) (.lf 124 Tryz.f124)) (.nd 126 (.lf 125 Tryz.f125) (.lf 126 Tryz.f126))) (.nd 129 (.nd 128 (.lf 127 Tryz.f127) (.lf 128 Tryz.f128)) (.nd 130 (.lf 129 Tryz.f129) (.nd 131 (.lf 130 Tryz.f130) (.lf 131 Tryz.f131))))))))) (.nd 198 (.nd 165 (.nd 148 (.nd 140 (.nd 136 (.nd 134 (.nd 133 (.lf 132 Tryz.f132) (.lf 133 Tryz.f133)) (.nd 135 (.lf 134 Tryz.f134) (.lf 135 Tryz.f135))) (.nd 138 (.nd 137 (.lf 136 Tryz.f136) (.lf 137 Tryz.f137)) (.nd 139 (.lf 138 Tryz.f138) (.lf 139 Tryz.f139)))) (.nd 144 (.nd 142 (.nd 141 (.lf 140 Tryz.f140) (.lf 141 Tryz.f141)) (.nd 143 (.lf 142 Tryz.f142) (.lf 143 Tryz.f143))) (.nd 146 (.nd 145 (.lf 144 Tryz.f144) (.lf 145 Tryz.f145)) (.nd 147 (.lf 146 Tryz.f146) (.lf 147 Tryz.f147))))) (.nd 156 (.nd 152 (.nd 150 (.nd 149 (.lf 148 Tryz.f148) (.lf 149 Tryz.f149)) (.nd 151 (.lf 150 Tryz.f150) (.lf 151 Tryz.f151))) (.nd 154 (.nd 153 (.lf 152 Tryz.f152) (.lf 153 Tryz.f153)) (.nd 155 (.lf 154 Tryz.f154) (.lf 155 Tryz.f155)))) (.nd 160 (.nd 158 (.nd 157 (.lf 156 Tryz.f156) (.lf 157 Tryz.f157)) (.nd 159 (.lf 158 Tryz.f158) (.lf 159 Tryz.f159))) (.nd 162 (.nd 161 (.lf 160 Tryz.f160) (.lf 161 Tryz.f161)) (.nd 163 (.lf 162 Tryz.f162) (.nd 164 (.lf 163 Tryz.f163) (.lf 164 Tryz.f164))))))) (.nd 181 (.nd 173 (.nd 169 (.nd 167 (.nd 166 (.lf 165 Tryz.f165) (.lf 166 Tryz.f166)) (.nd 168 (.lf 167 Tryz.f167) (.lf 168 Tryz.f168))) (.nd 171 (.nd 170 (.lf 169 Tryz.f169) (.lf 170 Tryz.f170)) (.nd 172 (.lf 171 Tryz.f171) (.lf 172 Tryz.f172)))) (.nd 177 (.nd 175 (.nd 174 (.lf 173 Tryz.f173) (.lf 174 Tryz.f174)) (.nd 176 (.lf 175 Tryz.f175) (.lf 176 Tryz.f176))) (.nd 179 (.nd 178 (.lf 177 Tryz.f177) (.lf 178 Tryz.f178)) (.nd 180 (.lf 179 Tryz.f179) (.lf 180 Tryz.f180))))) (.nd 189 (.nd 185 (.nd 183 (.nd 182 (.lf 181 Tryz.f181) (.lf 182 Tryz.f182)) (.nd 184 (.lf 183 Tryz.f183) (.lf 184 Tryz.f184))) (.nd 187 (.nd 186 (.lf 185 Tryz.f185) (.lf 186 Tryz.f186)) (.nd 188 (.lf 187 Tryz.f187) (.lf 188 Tryz.f188)))) (.nd 193 (.nd 191 (.nd 190 (.lf 189 Tryz.f189) (.lf 190 Tryz.f190)) (.nd 192 (.lf 191 Tryz.f191) (.lf 192 Tryz.f192))) (.nd 195 (.nd 194 (.lf 193 Tryz.f193) (.lf 194 Tryz.f194)) (.nd 196 (.lf 195 Tryz.f195) (.nd 197 (.lf 196 Tryz.f196) (.lf 197 Tryz.f197)))))))) (.nd 231 (.nd 214 (.nd 206 (.nd 202 (.nd 200 (.nd 199 (.lf 198 Tryz.f198) (.lf 199 Tryz.f199)) (.nd 201 (.lf 200 Tryz.f200) (.lf 201 Tryz.f201))) (.nd 204 (.nd 203 (.lf 202 Tryz.f202) (.lf 203 Tryz.f203)) (.nd 205 (.lf 204 Tryz.f204) (.lf 205 Tryz.f205)))) (.nd 210 (.nd 208 (.nd 207 (.lf 206 Tryz.f206) (.lf 207 Tryz.f207)) (.nd 209 (.lf 208 Tryz.f208) (.lf 209 Tryz.f209))) (.nd 212 (.nd 211 (.lf 210 Tryz.f210) (.lf 211 Tryz.f211)) (.nd 213 (.lf 212 Tryz.f212) (.lf 213 Tryz.f213))))) (.nd 222 (.nd 218 (.nd 216 (.nd 215 (.lf 214 Tryz.f214) (.lf 215 Tryz.f215)) (.nd 217 (.lf 216 Tryz.f216) (.lf 217 Tryz.f217))) (.nd 220 (.nd 219 (.lf 218 Tryz.f218) (.lf 219 Tryz.f219)) (.nd 221 (.lf 220 Tryz.f220) (.lf 221 Tryz.f221)))) (.nd 226 (.nd 224 (.nd 223 (.lf 222 Tryz.f222) (.lf 223 Tryz.f223)) (.nd 225 (.lf 224 Tryz.f224) (.lf 225 Tryz.f225))) (.nd 228 (.nd 227 (.lf 226 Tryz.f226) (.lf 227 Tryz.f227)) (.nd 229 (.lf 228 Tryz.f228) (.nd 230 (.lf 229 Tryz.f229) (.lf 230 Tryz.f230))))))) (.nd 248 (.nd 239 (.nd 235 (.nd 233 (.nd 232 (.lf 231 Tryz.f231) (.lf 232 Tryz.f232)) (.nd 234 (.lf 233 Tryz.f233) (.lf 234 Tryz.f234))) (.nd 237 (.nd 236 (.lf 235 Tryz.f235) (.lf 236 Tryz.f236)) (.nd 238 (.lf 237 Tryz.f237) (.lf 238 Tryz.f238)))) (.nd 243 (.nd 241 (.nd 240 (.lf 239 Tryz.f239) (.lf 240 Tryz.f240)) (.nd 242 (.lf 241 Tryz.f241) (.lf 242 Tryz.f242))) (.nd 245 (.nd 244 (.lf 243 Tryz.f243) (.lf 244 Tryz.f244)) (.nd 246 (.lf 245 Tryz.f245) (.nd 247 (.lf 246 Tryz.f246) (.lf 247 Tryz.f247)))))) (.nd 256 (.nd 252 (.nd 250 (.nd 249 (.lf 248 Tryz.f248) (.lf 249 Tryz.f249)) (.nd 251 (.lf 250 Tryz.f250) (.lf 251 Tryz.f251))) (.nd 254 (.nd 253 (.lf 252 Tryz.f252) (.lf 253 Tryz.f253)) (.nd 255 (.lf 254 Tryz.f254) (.lf 255 Tryz.f255)))) (.nd 260 (.nd 258 (.nd 257 (.lf 256 Tryz.f256) (.lf 257 Tryz.f257)) (.nd 259 (.lf 258 Tryz.f258) (.lf 259 Tryz.f259))) (.nd 262 (.nd 261 (.lf 260 Tryz.f260) (.lf 261 Tryz.f261)) (.nd 263 (.lf 262 Tryz.f262) (.nd 264 (.lf 263 Tryz.f263) (.lf 264 Tryz.f264))))))))))
end
end Go.Proofs.YtlkccnhkenmkdaaGreatDoor
namespace Go.Proofs.YtlkccnhkenmkdaaGreatDoor
open Go.Shelf
def sx219_ren : Go.Shelf.Ren := ⟨fun | 219 => 120 | 217 => 141 | 225 => 142 | 224 => 143 | 267 => 144 | 266 => 164 | 314 => 165 | n => n, fun | 9 => 9 | 3 => 3 | 4 => 4 | 5 => 5 | 46 => 169 | 146 => 238 | 51 => 154 | n => n, fun | 1 => 2 | n => n⟩
theorem sx219 : Go.Proofs.Lays.n219 Tryz.prog sx219_ren := {
  mixed := by kernel_rfl
  f217 := Tryz.func141.trans (congrArg some (by kernel_rfl))
  f219 := Tryz.func120.trans (congrArg some (by kernel_rfl))
  f224 := Tryz.func143.trans (congrArg some (by kernel_rfl))
  f225 := Tryz.func142.trans (congrArg some (by kernel_rfl))
  f266 := Tryz.func164.trans (congrArg some (by kernel_rfl))
  f267 := Tryz.func144.trans (congrArg some (by kernel_rfl))
  f314 := Tryz.func165.trans (congrArg some (by kernel_rfl))
  t3 := Tryz.underlying3
  a3 := Tryz.isAgg3
  z3 := Tryz.sizeOf3
  v3 := Tryz.zeroValue3
  t4 := Tryz.underlying4
  a4 := Tryz.isAgg4
  z4 := Tryz.sizeOf4
  v4 := Tryz.zeroValue4
  t5 := Tryz.underlying5
  a5 := Tryz.isAgg5
  z5 := Tryz.sizeOf5
  v5 := Tryz.zeroValue5
  t9 := Tryz.underlying9
  a9 := Tryz.isAgg9
  z9 := Tryz.sizeOf9
  v9 := Tryz.zeroValue9
  t46 := Tryz.underlying169
  a46 := Tryz.isAgg169
  z46 := Tryz.sizeOf169
  v46 := Tryz.zeroValue169
  t51 := Tryz.underlying154
  a51 := Tryz.isAgg154
  z51 := Tryz.sizeOf154
  v51 := Tryz.zeroValue154
  t146 := Tryz.underlying238
  a146 := Tryz.isAgg238
  z146 := Tryz.sizeOf238
  v146 := Tryz.zeroValue238
  g1 := by kernel_rfl }
end Go.Proofs.YtlkccnhkenmkdaaGreatDoor
namespace Go.Proofs.YtlkccnhkenmkdaaGreatDoor
set_option linter.unusedVariables false
noncomputable section
/- internal/stringslite.Index: where a text stands in another one first. -/
def preB (p l : List Nat) : Bool := List.rec (motive := fun _ => List Nat → Bool) (fun _ => true) (fun a _ ih l => List.rec (motive := fun _ => Bool) false (fun b r _ => bq (Nat.beq a b) (ih r) false) l) p l
def idxStr (p l : List Nat) : Nat → Int := List.rec (motive := fun _ => Nat → Int) (fun i => bq (preB p []) (.ofNat i) (.negSucc 0)) (fun a r ih i => bq (preB p (a :: r)) (.ofNat i) (ih (Nat.succ i))) l
def idxO0 (args : List AV) (h : AH) : Option (AV × AH) :=
  match args with
  | [.str s, .str p] => bq (Nat.ble (flen s) 4294967280) (some (.int 9223372036854775807 (idxStr p s 0), h)) none
  | _ => none
/- tables -/
def ascZ : List Int := (List.range 256).map fun c => if [9,10,11,12,13,32].contains c then 1 else 0
def asc0 : List AV := ascZ.map fun n => .int 255 n
def db64Z : List Int := ((List.range 64).foldl (fun (t : List Int) i => t.set ((0x03f79d71b4ca8b09 * 2 ^ i % 2 ^ 64) / 2 ^ 58) (Int.ofNat i)) (List.replicate 64 0))
def db640 : List AV := db64Z.map fun n => .int 255 n
def gl0 (mx : Int) (g : Nat) : Option (List AV) := bq (Nat.beq g 0) (some asc0) (bq (Nat.beq g 5) (some db640) (bq (Nat.beq g 2) (some [.int 9223372036854775807 mx]) none))
def ext0 (f : Nat) : Option (List AV → AH → Option (AV × AH)) := bq (Nat.beq f 170) (some (fun args h => obind (addX args) fun v => some (v, h))) (bq (Nat.beq f 164) (some (fun args h => obind (idxBX args) fun v => some (v, h))) (none))
def orc0 (f : Nat) : Option (Run → List AV → AH → Option (AV × AH)) := bq (Nat.beq f 120) (some (fun _ => idxO0)) (none)
def fzL : List Nat := [6, 9, 36, 14, 27, 84, 157, 133, 131, 26]
def trL : List Nat := [19, 22, 69, 12, 152, 26, 51, 106, 124, 130, 184, 201, 180, 190, 188, 159, 186, 203, 17, 158, 135, 137, 157]
def memN (f : Nat) (l : List Nat) : Bool := List.rec (motive := fun _ => Bool) false (fun a _ ih => bq (Nat.beq f a) true ih) l
def C0 (mx : Int) : Cx := { ty := bget tyT, fn := bget fnT, gl := gl0 mx, orc := orc0, ext := ext0, memo := fun _ _ => none, sq := fun _ => none, fz := fun f => memN f fzL, tr := fun f => memN f trL }
end
end Go.Proofs.YtlkccnhkenmkdaaGreatDoor
namespace Go.Proofs.YtlkccnhkenmkdaaGreatDoor
set_option linter.unusedSimpArgs false
set_option linter.unusedVariables false
set_option linter.unnecessarySimpa false
set_option maxRecDepth 100000 in
theorem tyAll : btAll (fun t ti => and (tyChk Tryz.prog t ti) (flChk Tryz.prog t ti)) tyT = true := by decide +kernel
def fnP (f : Nat) (fn : Func) : Prop := Tryz.prog.funcs[f]? = some fn ∧ (fn.name == "runtime.NumGoroutine") = false
set_option maxRecDepth 100000 in
theorem fnAll : BTAll fnP fnT := by
  unfold fnT
  repeat' (first | exact And.intro (by kernel_rfl) (by kernel_rfl) | refine And.intro ?_ ?_)
theorem row0 : RowOf Tryz.prog 170 add64Entry := ⟨_, Tryz.func170, by kernel_rfl, by kernel_rfl, by kernel_rfl, by kernel_rfl⟩
theorem row1 : RowOf Tryz.prog 164 Extern.BytealgIndexByte.indexByte := ⟨_, Tryz.func164, by kernel_rfl, by kernel_rfl, by kernel_rfl, by kernel_rfl⟩
theorem cx_ext {mx : Int} : ∀ f g, (C0 mx).ext f = some g → ∀ args h v h', g args h = some (v, h') → ∀ ok w ρ us, Inv (C0 mx) ok w ρ h → VL ok w args ρ us → ∃ u w' ok' ρ', (callFunc f us.toArray).run Tryz.prog w = .ok (.value u) w' ∧ Ext ok w ρ h ok' w' ρ' h' ∧ Inv (C0 mx) ok' w' ρ' h' ∧ V ok' w' v ρ' u := by
  intro f g e
  have e : bq (Nat.beq f 170) _ (bq (Nat.beq f 164) _ (none)) = some g := e
  cases h0 : Nat.beq f 170 with
  | true =>
    rw [h0, bq_true] at e
    cases e
    rw [Nat.eq_of_beq_eq_true h0]
    exact addX_ok row0
  | false =>
    rw [h0, bq_false] at e
    cases h1 : Nat.beq f 164 with
    | true =>
      rw [h1, bq_true] at e
      cases e
      rw [Nat.eq_of_beq_eq_true h1]
      exact idxBX_ok row1
    | false =>
      rw [h1, bq_false] at e
      cases e
theorem cx_ok {mx : Int} (orc : ∀ f g, orc0 f = some g → ∀ run, RunOk Tryz.prog (C0 mx) run → ∀ args h r h', g run args h = some (r, h') → RunAt Tryz.prog (C0 mx) f args h r h') : CxOk Tryz.prog (C0 mx) := by
  have ty : ∀ t ti, (C0 mx).ty t = some ti → tyChk Tryz.prog t ti = true ∧ flChk Tryz.prog t ti = true := fun t ti h => by
    have := btAll_ok tyAll t ti h
    rwa [Bool.and_eq_true] at this
  exact ⟨fun t ti h => (tyChk_ok (ty t ti h).1).1, fun t ti h => (tyChk_ok (ty t ti h).1).2, fun t ti h => flChk_ok (ty t ti h).2, fun f fn h => BTAll.get fnAll f fn h, cx_ext, fun f args v e => (by cases e), orc, by kernel_rfl, fun g q e => (by cases e)⟩
end Go.Proofs.YtlkccnhkenmkdaaGreatDoor
namespace Go.Proofs.YtlkccnhkenmkdaaGreatDoor
set_option linter.unusedSimpArgs false
set_option linter.unusedVariables false
set_option linter.unnecessarySimpa false
open Go.Shelf
theorem preB_eq : ∀ (p l : List UInt8), preB (p.map UInt8.toNat) (l.map UInt8.toNat) = p.isPrefixOf l
  | [], l => by cases l <;> rfl
  | a :: p, [] => rfl
  | a :: p, b :: l => by
    show bq (Nat.beq a.toNat b.toNat) (preB (p.map UInt8.toNat) (l.map UInt8.toNat)) false = _
    rw [preB_eq p l]
    by_cases h : a = b
    · subst h; rw [Nat.beq_refl]; simp [bq, List.isPrefixOf]
    · have h1 : Nat.beq a.toNat b.toNat = false := by
        rw [Bool.eq_false_iff]
        intro hh
        exact h (UInt8.toNat_inj.1 (Nat.eq_of_beq_eq_true hh))
      rw [h1, bq_false]
      simp [List.isPrefixOf, h]
theorem idxStr_eq (p : List UInt8) : ∀ (l : List UInt8) (i : Nat), idxStr (p.map UInt8.toNat) (l.map UInt8.toNat) i = if Lib.index l p = -1 then -1 else Lib.index l p + i
  | [], i => by
    show bq (preB (p.map UInt8.toNat) (([] : List UInt8).map UInt8.toNat)) (Int.ofNat i) (Int.negSucc 0) = _
    rw [preB_eq]
    cases p with
    | nil => simp [Lib.index, List.isPrefixOf, bq]
    | cons a p => simp [Lib.index, List.isPrefixOf, bq]
  | a :: l, i => by
    show bq (preB (p.map UInt8.toNat) ((a :: l).map UInt8.toNat)) (Int.ofNat i) (idxStr (p.map UInt8.toNat) (l.map UInt8.toNat) (i + 1)) = _
    rw [preB_eq, idxStr_eq p l (i + 1)]
    have hge := Lib.index_ge l p
    cases h : p.isPrefixOf (a :: l) with
    | true =>
      have e1 : Lib.index (a :: l) p = 0 := by simp [Lib.index, h]
      rw [bq_true, e1]
      simp
    | false =>
      rw [bq_false]
      by_cases h3 : Lib.index l p = -1
      · have e1 : Lib.index (a :: l) p = -1 := by simp [Lib.index, h, h3]
        rw [e1, if_pos h3, if_pos rfl]
      · have e1 : Lib.index (a :: l) p = Lib.index l p + 1 := by simp [Lib.index, h, h3]
        rw [e1, if_neg h3, if_neg (by omega)]
        push_cast
        omega
theorem maxLen_cell {mx : Int} {ok : Nat → Prop} {w : World} {ρ : Rho} {h : AH} (I : Inv (C0 mx) ok w ρ h) : w.cell? ⟨2, 0, none⟩ = some (.int .i64 mx) := by
  obtain ⟨_, h2⟩ := I.gl 2 [.int 9223372036854775807 mx] rfl
  simp only [VAt] at h2
  obtain ⟨⟨u, h3, h4⟩, _⟩ := h2
  simp only [V] at h4
  obtain ⟨k, h5, rfl⟩ := h4
  cases k <;> first | exact h3 | (exact absurd h5 (by decide))
theorem index_orc {mx : Int} {args : List AV} {h : AH} {r : AV} {h' : AH} (e : idxO0 args h = some (r, h')) : RunAt Tryz.prog (C0 mx) 120 args h r h' := by
  refine ⟨⟨_, Tryz.func120, by kernel_rfl, by kernel_rfl⟩, fun ok w ρ us I hv => ?_⟩
  unfold idxO0 at e
  split at e
  · rename_i s p
    obtain ⟨e1, e2⟩ := bq_some e
    cases e2
    have e1 := Nat.le_of_ble_eq_true e1
    rw [flen_eq] at e1
    simp only [VL] at hv
    obtain ⟨u1, _, rfl, v1, u2, _, rfl, v2, rfl⟩ := hv
    simp only [V] at v1 v2
    obtain ⟨S, rfl, rfl⟩ := v1
    obtain ⟨Q, rfl, rfl⟩ := v2
    have hs : S.size < 4294967281 := by
      have : (S.data.toList.map UInt8.toNat).length = S.size := by simp
      omega
    refine (Any.stringslite_Index sx219 S Q mx w hs (maxLen_cell I)).mono ?_
    rintro en w' ⟨rfl, rfl⟩
    refine ⟨_, ok, ρ, rfl, Ext.refl _ _ _ _, I, ?_⟩
    simp only [V]
    refine ⟨.i64, rfl, ?_⟩
    rw [idxStr_eq]
    split
    · next h => rw [h]
    · simp
  · cases e
end Go.Proofs.YtlkccnhkenmkdaaGreatDoor
namespace Go.Proofs.YtlkccnhkenmkdaaGreatDoor
set_option linter.unusedVariables false
theorem c0_ok {mx : Int} : CxOk Tryz.prog (C0 mx) := by
  refine cx_ok fun f g e run hr args h r h' e2 => ?_
  have e : bq (Nat.beq f 120) _ (none) = some g := e
  cases h0 : Nat.beq f 120 with
  | true =>
    rw [h0, bq_true] at e
    cases e
    rw [Nat.eq_of_beq_eq_true h0]
    exact index_orc e2
  | false =>
    rw [h0, bq_false] at e
    cases e
end Go.Proofs.YtlkccnhkenmkdaaGreatDoor
namespace Go.Proofs.YtlkccnhkenmkdaaGreatDoor
set_option linter.unusedSimpArgs false
set_option linter.unusedVariables false
set_option linter.unnecessarySimpa false
open Go.RowKit
theorem asc_inv {cs : Array Value} {fuel : Nat} {p : List MemPlace} {W : World} (hv : W.var? Tryz.prog "strings.asciiSpace" = some cs) (hd : DataW.trod (fun _ => ()) Tryz.prog W 0 (fun _ => true) false fuel 126 cs.toList = some (Rows.laid_strings_asciiSpace, p)) : VAt (· < W.heap.size) W asc0 ρ0 0 0 := by
  show VAt (· < W.heap.size) W (ascZ.map fun n => .int (maxN .u8) n) ρ0 0 0
  refine VAt_tab fun r hr => ?_
  rw [Nat.zero_add]
  exact tab_cells (by kernel_rfl) hv Tryz.underlying126 Tryz.underlying5 (by kernel_rfl) (by kernel_rfl) (by kernel_rfl) hd r hr
theorem db64_inv {cs : Array Value} {fuel : Nat} {p : List MemPlace} {W : World} (hv : W.var? Tryz.prog "math/bits.deBruijn64tab" = some cs) (hd : DataW.trod (fun _ => ()) Tryz.prog W 0 (fun _ => true) false fuel 282 cs.toList = some (Rows.laid_math_bits_deBruijn64tab, p)) : VAt (· < W.heap.size) W db640 ρ0 5 0 := by
  show VAt (· < W.heap.size) W (db64Z.map fun n => .int (maxN .u8) n) ρ0 5 0
  refine VAt_tab fun r hr => ?_
  rw [Nat.zero_add]
  exact tab_cells (by kernel_rfl) hv Tryz.underlying282 Tryz.underlying5 (by kernel_rfl) (by kernel_rfl) (by kernel_rfl) hd r hr
theorem maxLen_some {W : World} (hs : W.ShapedOpen Tryz.prog) : ∃ m, W.cell? ⟨2, 0, none⟩ = some (.int .i64 m) :=
  cell_of_shapedOpen_int (t := 3) (zero := #[.int .i64 0]) hs (of_decide_eq_true (by kernel_rfl)) (by kernel_rfl) rfl (by kernel_rfl) (by kernel_rfl) Tryz.underlying3
theorem cell_block {w : World} {b o : Nat} {v : Value} (h : w.cell? ⟨b, o, none⟩ = some v) : b < w.heap.size := by
  rcases Nat.lt_or_ge b w.heap.size with h1 | h1
  · exact h1
  · unfold World.cell? at h
    rw [Array.getElem?_eq_none h1] at h
    simp at h
theorem VAt_block {ok : Nat → Prop} {w : World} {l : List AV} {ρ : Rho} {g : Nat} (h : VAt ok w l ρ g 0) (hl : l ≠ []) : g < w.heap.size := by
  cases l with
  | nil => exact absurd rfl hl
  | cons a r =>
    simp only [VAt] at h
    obtain ⟨⟨u, hu, _⟩, _⟩ := h
    exact cell_block hu
theorem inv0 {W : World} {mx : Int} (t0 : VAt (· < W.heap.size) W asc0 ρ0 0 0) (t1 : VAt (· < W.heap.size) W db640 ρ0 5 0) (hm : W.cell? ⟨2, 0, none⟩ = some (.int .i64 mx)) : Inv (C0 mx) (· < W.heap.size) W ρ0 [] := by
  refine ⟨fun _ h => h, fun n r e => (by cases e), fun n b e => (by simp [hget_eq] at e), fun n m r hn => (by simp [hget_eq] at hn), fun g cs e => ?_⟩
  have e : gl0 mx g = some cs := e
  unfold gl0 at e
  cases h0 : Nat.beq g 0 with
  | true =>
    rw [h0, bq_true] at e
    cases e
    rw [Nat.eq_of_beq_eq_true h0]
    exact ⟨VAt_block t0 (by intro c; have := congrArg List.length c; revert this; decide +kernel), t0⟩
  | false =>
    rw [h0, bq_false] at e
    cases h1 : Nat.beq g 5 with
    | true =>
      rw [h1, bq_true] at e
      cases e
      rw [Nat.eq_of_beq_eq_true h1]
      exact ⟨VAt_block t1 (by intro c; have := congrArg List.length c; revert this; decide +kernel), t1⟩
    | false =>
      rw [h1, bq_false] at e
      obtain ⟨hg, e⟩ := bq_some e
      cases e
      rw [Nat.eq_of_beq_eq_true hg]
      refine ⟨cell_block hm, ?_⟩
      simp only [VAt]
      refine ⟨⟨_, hm, ?_⟩, trivial⟩
      simp only [V]
      exact ⟨.i64, rfl, rfl⟩
end Go.Proofs.YtlkccnhkenmkdaaGreatDoor
