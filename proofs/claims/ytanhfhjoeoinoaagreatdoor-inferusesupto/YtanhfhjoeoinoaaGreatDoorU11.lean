/- A part of the proof of InferUses, second form: for every input of bulk at most 1048576 the call returns true and the arguments read as they did. Its condition: that bulk. -/
import Derived.Test.YtanhfhjoeoinoaaGreatDoorU08
import Derived.Test.YtanhfhjoeoinoaaGreatDoorU07
import Derived.Test.YtanhfhjoeoinoaaGreatDoorProg
/- The tables of the program for the machine: functions, types, notes. Written by program (mkkit.py). -/
namespace Go.Dv.K
open Go.Proofs
noncomputable section
def a5 : FAnn := { marr := [49, 116] }
def a14 : FAnn := { draws := [(17, { ord := [0, 1, 2, 3, 4, 5], wr := 32, cl := [0, 1, 3, 7, 0, 31] }), (20, { ord := [0, 1, 2, 3, 4, 5], wr := 32, cl := [0, 1, 3, 7, 0, 31] }), (24, { ord := [0, 1, 2, 3, 4, 5, 6, 7, 8, 9, 10, 11, 12], wr := 2048, cl := [0, 1, 3, 7, 0, 16, 48, 112, 0, 496, 1008, 2047, 4095] }), (27, { ord := [0, 1, 2, 3, 4, 5, 6, 7, 8, 9, 10, 11, 12, 13], wr := 256, cl := [0, 1, 3, 7, 0, 16, 48, 112, 255, 511, 1023, 1023, 2047, 8191] })] }
def a17 : FAnn := { draws := [(3, { ord := [0, 1, 2, 3], wr := 12, fl := [(1, 3)], cl := [0, 0, 1, 7] }), (8, { ord := [0, 1, 2, 3, 4, 5, 6, 7, 8, 9], wr := 768, cl := [0, 0, 3, 7, 15, 0, 63, 0, 127, 511] })] }
def a22 : FAnn := { frz := [26], draws := [(5, { ord := [0, 1, 2], wr := 4, cl := [0, 0, 3] })] }
def a25 : FAnn := { heap := [4] }
def a26 : FAnn := { draws := [(3, { ord := [0, 1, 2], wr := 4, cl := [0, 0, 3] }), (6, { ord := [0, 1, 2], wr := 4, cl := [0, 0, 3] }), (8, { ord := [0, 1, 2, 3], wr := 8, cl := [0, 0, 1, 7] })] }
def a27 : FAnn := { heap := [2] }
def a28 : FAnn := { marr := [33], draws := [(19, { ord := [0, 1, 2, 3, 4, 5, 6, 7, 8, 9, 10, 11], wr := 128, cl := [0, 0, 2, 6, 0, 16, 48, 127, 255, 511, 511, 1023] })] }
def a30 : FAnn := { marr := [11] }
def a31 : FAnn := { marr := [12] }
def a32 : FAnn := { marr := [10, 14] }
def a33 : FAnn := { keep := [4, 5, 8, 9, 32, 33, 34, 35, 36], heap := [8], frz := [51] }
def a34 : FAnn := { heap := [4] }
def a35 : FAnn := { heap := [10] }
def a38 : FAnn := { keep := [2, 3, 4, 7, 8, 9, 10, 11, 12, 13, 14, 15, 16], heap := [2, 3] }
def a46 : FAnn := { heap := [3] }
def a47 : FAnn := { heap := [19], draws := [(5, { ord := [0, 1, 2, 3, 4, 5, 6, 7, 8], wr := 256, cl := [0, 1, 3, 7, 0, 16, 0, 64, 255] }), (10, { ord := [0, 1, 2, 3, 4, 5, 6, 7], wr := 128, cl := [0, 1, 3, 7, 0, 16, 0, 127] })] }
def a48 : FAnn := { draws := [(13, { ord := [0, 1, 2, 3, 4, 5, 6, 7, 8, 9, 10, 11, 12], wr := 6144, fl := [(2, 12), (4, 12)], cl := [0, 0, 2, 6, 14, 0, 0, 64, 192, 448, 0, 2016, 4095] }), (21, { ord := [0, 1, 2, 3, 4, 5, 6, 7, 8, 9, 10, 11, 12], wr := 6144, fl := [(2, 12), (4, 12)], cl := [0, 0, 2, 6, 14, 0, 0, 64, 192, 448, 0, 2016, 4095] }), (25, { ord := [0, 1, 2, 3, 4, 5, 6, 7, 8, 9, 10], wr := 1280, fl := [(3, 9)], cl := [0, 1, 3, 7, 0, 0, 0, 64, 224, 511, 1023] }), (26, { ord := [10, 0, 1, 2, 3, 4, 5, 6, 7, 8, 9, 11, 12], wr := 2048, nA := 1, cl := [0, 1, 3, 7, 0, 16, 63, 127, 255, 255, 0, 1535, 4095] }), (9, { ord := [10, 0, 1, 2, 3, 4, 5, 6, 7, 8, 9, 11, 12], wr := 2048, nA := 1, cl := [0, 1, 3, 7, 0, 16, 63, 127, 255, 255, 0, 1535, 4095] })] }
def a49 : FAnn := { heap := [10], draws := [(13, { ord := [0, 1, 2, 3, 4, 5, 6, 7, 8, 9, 10], wr := 1024, cl := [0, 1, 3, 7, 0, 16, 48, 112, 0, 511, 1023] })] }
def a50 : FAnn := { draws := [(4, { ord := [0, 1, 2, 3, 4, 5, 6, 7], wr := 72, fl := [(5, 0)], cl := [0, 0, 2, 7, 0, 0, 63, 127] })] }
def a62 : FAnn := { heap := [2, 3, 10], draws := [(4, { ord := [0, 1, 2, 3, 4, 5, 6, 7, 8, 9], cl := [0, 1, 3, 7, 0, 16, 48, 112, 240, 511] })] }
def a63 : FAnn := { frz := [33] }
def a65 : FAnn := { frz := [18] }
def a66 : FAnn := { frz := [15] }
def a67 : FAnn := { draws := [(2, { ord := [0, 1, 2, 3, 4, 5, 6, 7, 8, 9, 10], wr := 1152, cl := [0, 0, 2, 6, 14, 0, 32, 126, 255, 511, 1023] })] }
def a69 : FAnn := { marr := [22], draws := [(6, { ord := [0, 1, 2, 3, 4, 5, 6, 7, 8, 9], wr := 136, fl := [(6, 0)], cl := [0, 0, 2, 7, 0, 0, 32, 127, 255, 511] })] }
def a70 : FAnn := { marr := [18] }
def a71 : FAnn := { keep := [2, 5, 9, 10, 11, 12, 13, 14, 15, 16, 17, 18, 19, 20, 21, 22, 23, 24, 25, 26, 27, 28, 29, 30, 31, 32, 33, 34, 35, 36], heap := [2], draws := [(3, { ord := [0, 1, 2, 3, 4, 5, 6, 7, 8, 9], wr := 512, cl := [0, 1, 3, 7, 0, 16, 0, 64, 255, 511] }), (4, { ord := [0, 1, 2, 3, 4, 5, 6, 7, 8, 9], wr := 512, cl := [0, 1, 3, 7, 0, 16, 0, 64, 255, 511] }), (5, { ord := [0, 1, 2, 3, 4, 5, 6, 7, 8, 9], wr := 512, cl := [0, 1, 3, 7, 0, 16, 0, 64, 255, 511] })] }
def a72 : FAnn := { draws := [(1, { ord := [0, 1, 2, 3, 4, 5, 6, 7, 8, 9, 10, 11, 12, 13, 14, 15], wr := 33792, fl := [(3, 11), (7, 11)], cl := [0, 1, 3, 7, 0, 16, 48, 112, 0, 0, 768, 2032, 4080, 8191, 16383, 32767] })] }
def a73 : FAnn := { heap := [2, 3] }
def a74 : FAnn := { frz := [42] }
def a75 : FAnn := { draws := [(9, { ord := [0, 1, 2, 3, 4, 5, 6, 7, 8, 9, 10, 11, 12, 13, 14, 15, 16, 17, 18, 19], wr := 524288, cl := [0, 0, 2, 6, 14, 0, 32, 96, 224, 480, 992, 2016, 4064, 8160, 16352, 32736, 65504, 131040, 262112, 524287] }), (29, { ord := [0, 1, 2, 3, 4, 5, 6, 7, 8, 9, 10, 11], wr := 2048, cl := [0, 0, 2, 6, 14, 0, 32, 96, 224, 480, 992, 2047] })] }
def a76 : FAnn := { draws := [(1, { ord := [0, 1, 2, 3, 4, 5, 6, 7, 8, 9, 10, 11], wr := 1024, cl := [0, 1, 3, 7, 15, 0, 32, 96, 224, 480, 1023, 2047] })] }
def a77 : FAnn := { keep := [2, 3, 4, 21, 22, 23, 24, 25, 26], heap := [2] }
def a78 : FAnn := { marr := [20, 42, 48, 70, 80] }
def a81 : FAnn := { heap := [1] }
def a86 : FAnn := { draws := [(2, { ord := [0, 1, 2, 3, 4, 5], cl := [0, 1, 0, 4, 12, 31] }), (4, { ord := [0, 1, 2, 3, 4, 5, 6], cl := [0, 1, 0, 4, 12, 31, 63] })] }
def a87 : FAnn := { heap := [21] }
def a88 : FAnn := { keep := [3, 6, 7, 22, 23, 24, 25, 26], heap := [3, 6], draws := [(1, { ord := [0, 1, 2, 3, 4, 5, 6], wr := 96, fl := [(0, 6), (2, 6), (4, 6)], cl := [0, 0, 2, 6, 14, 0, 63] }), (3, { ord := [0, 1, 2, 3, 4, 5], wr := 32, cl := [0, 0, 2, 6, 14, 31] }), (6, { ord := [0, 1, 2, 3, 4, 5, 6], wr := 64, cl := [0, 0, 2, 6, 14, 0, 63] })] }
def a89 : FAnn := { keep := [3, 4, 5, 8, 9, 10, 11, 12, 13, 14, 15], heap := [3, 4], draws := [(3, { ord := [0, 1, 2, 3, 4, 5], cl := [0, 1, 3, 7, 0, 31] })] }
def a92 : FAnn := { draws := [(3, { ord := [0, 1, 2, 3, 4, 5, 6, 7, 8, 9, 10, 11, 12, 13, 14, 15, 16, 17, 18, 19, 20, 21, 22, 23, 24, 25, 26, 27, 28, 29, 30, 31, 32], wr := 2147483648, cl := [0, 0, 2, 6, 14, 30, 62, 126, 0, 256, 768, 1792, 4094, 8190, 0, 16384, 49152, 114688, 0, 507904, 1032192, 0, 2097152, 6291456, 14680064, 0, 33554432, 100663296, 234881024, 534773760, 1071644672, 2147483647, 4294967295] }), (5, { ord := [0, 1, 2, 3, 4, 5, 6, 7, 8, 9, 10, 11, 12], wr := 2048, cl := [0, 1, 3, 7, 0, 16, 48, 112, 0, 496, 1008, 2047, 4095] })] }
def a119 : FAnn := { draws := [(5, { ord := [0, 1, 2], wr := 6, fl := [(0, 2)], cl := [0, 0, 3] })] }
def a122 : FAnn := { draws := [(0, { ord := [0, 1, 2, 3, 4, 5, 6, 7, 8, 9], cl := [0, 1, 3, 7, 0, 16, 48, 112, 240, 511] }), (1, { ord := [0, 1, 2, 3, 4, 5, 6, 7, 8, 9, 10, 11, 12, 13, 14, 15, 16, 17, 18, 19, 20, 21, 22, 23, 24, 25], wr := 33554432, cl := [0, 0, 2, 6, 14, 0, 32, 96, 224, 510, 1022, 2046, 0, 4096, 12288, 28672, 0, 65536, 196608, 458752, 1044480, 2093056, 4190208, 8388607, 16777215, 33554431] }), (2, { ord := [0, 1, 2, 3, 4, 5, 6, 7, 8, 9, 10, 11, 12, 13], wr := 8192, cl := [0, 0, 2, 6, 14, 30, 0, 64, 192, 448, 960, 2047, 4095, 8191] })] }
def a123 : FAnn := { marr := [5] }
def a125 : FAnn := { draws := [(1, { ord := [0, 1, 2, 3, 4, 5, 6, 7, 8, 9, 10, 11, 12, 13, 14], cl := [0, 1, 3, 7, 0, 31, 63, 0, 128, 384, 896, 0, 3968, 8064, 16383] }), (3, { ord := [17, 0, 1, 2, 3, 4, 5, 6, 7, 8, 9, 10, 11, 12, 13, 14, 15, 16, 18], wr := 262144, nA := 1, cl := [0, 0, 0, 4, 12, 28, 0, 124, 252, 0, 512, 1536, 3584, 0, 15872, 32256, 65535, 0, 262143] }), (5, { ord := [0, 1, 2, 3, 4, 5, 6, 7, 8, 9, 10, 11, 12, 13], wr := 8192, cl := [0, 1, 3, 7, 0, 0, 32, 96, 224, 0, 992, 2016, 4095, 8191] }), (6, { ord := [0, 1, 2, 3, 4, 5, 6, 7, 8, 9, 10, 11, 12, 13, 14], cl := [0, 1, 3, 7, 0, 31, 63, 0, 128, 384, 896, 0, 3968, 8064, 16383] })] }
def a126 : FAnn := { heap := [1] }
def a127 : FAnn := { keep := [7, 11, 59, 60, 61, 62, 63], heap := [7], marr := [20], draws := [(6, { ord := [0, 1, 2, 3, 4, 5, 6, 7, 8], wr := 128, cl := [0, 0, 0, 4, 12, 30, 62, 127, 255] })] }
def a128 : FAnn := { heap := [1] }
def a134 : FAnn := { draws := [(6, { ord := [0, 1, 2, 3, 4, 5, 6, 7, 8, 9, 10], wr := 256, cl := [0, 1, 3, 7, 7, 31, 7, 71, 255, 511, 1023] })] }
def a135 : FAnn := { heap := [1] }
def a137 : FAnn := { marr := [29, 35, 55, 71, 82, 93] }
def a138 : FAnn := { marr := [7, 13, 27, 36], draws := [(4, { ord := [0, 1, 2, 3, 4, 5, 6, 7, 8, 9, 10, 11, 12, 13], wr := 12288, cl := [0, 0, 2, 6, 14, 0, 32, 96, 224, 510, 1022, 2046, 4094, 8191] })] }
def a140 : FAnn := { marr := [28] }
def a149 : FAnn := { draws := [(12, { ord := [0, 1, 2, 3, 4, 5, 6], wr := 68, fl := [(3, 0)], cl := [0, 1, 3, 0, 15, 31, 63] })] }
def a156 : FAnn := { draws := [(13, { ord := [10, 0, 1, 2, 3, 4, 5, 6, 7, 8, 9, 11, 12], wr := 2048, nA := 1, cl := [0, 1, 3, 7, 0, 16, 63, 127, 255, 255, 0, 1535, 4095] })] }
def a157 : FAnn := { heap := [2, 3] }
def a158 : FAnn := { heap := [1] }
def a159 : FAnn := { keep := [3, 6, 8, 9, 69, 70, 71, 72, 73, 74, 75, 76, 77, 78, 79, 80, 81, 82, 83, 84, 85, 86, 87], heap := [3, 8], draws := [(3, { ord := [0, 1, 2, 3, 4, 5, 6, 7, 8, 9, 10, 11, 12, 13, 14, 15, 16, 17, 18, 19], wr := 720896, fl := [(0, 17), (0, 18), (3, 17), (3, 18), (5, 17), (6, 17), (9, 17), (12, 17), (14, 17), (15, 17)], cl := [0, 1, 3, 7, 0, 0, 0, 64, 192, 448, 960, 1984, 4032, 0, 8192, 32704, 0, 131040, 262143, 524287] }), (6, { ord := [0, 1, 2, 3, 4, 5, 6, 7, 8, 9, 10, 11, 12, 13, 14, 15, 16], wr := 65536, cl := [0, 1, 3, 7, 0, 0, 32, 96, 224, 0, 512, 1536, 3584, 8160, 16352, 32767, 65535] }), (12, { ord := [0, 1, 2, 3, 4, 5, 6, 7, 8, 9, 10, 11, 12, 13], wr := 12288, cl := [0, 0, 2, 6, 14, 0, 32, 96, 224, 510, 1022, 2046, 4095, 8191] }), (13, { ord := [0, 1, 2, 3, 4, 5, 6, 7, 8, 9, 10, 11, 12, 13, 14, 15, 16, 17, 18, 19, 20], wr := 32768, cl := [0, 1, 3, 7, 0, 16, 48, 112, 0, 256, 768, 1792, 4080, 8176, 0, 32767, 65535, 131071, 131071, 262143, 1048575] }), (15, { ord := [0, 1, 2, 3, 4, 5], wr := 36, fl := [(0, 3)], cl := [0, 0, 2, 7, 15, 31] })] }
def a160 : FAnn := { draws := [(1, { ord := [14, 0, 1, 2, 3, 4, 5, 6, 7, 8, 9, 10, 11, 12, 13, 15, 16], wr := 33792, nA := 1, cl := [0, 1, 3, 7, 15, 31, 63, 0, 128, 511, 1023, 2047, 4095, 4095, 0, 24575, 65535] }), (2, { ord := [0, 1, 2, 3, 4, 5, 6, 7, 8, 9, 10], wr := 1408, fl := [(3, 8), (3, 9), (6, 8)], cl := [0, 1, 3, 7, 0, 0, 0, 0, 224, 511, 1023] })] }
def a161 : FAnn := { draws := [(7, { ord := [0, 1, 2, 3, 4, 5, 6, 7, 8, 9, 10, 11, 12, 13, 14, 15], wr := 33792, fl := [(3, 11)], cl := [0, 1, 3, 7, 0, 0, 32, 96, 224, 0, 992, 2016, 4064, 4064, 8191, 24575] })] }
def a162 : FAnn := { draws := [(1, { ord := [0, 1, 2, 3, 4, 5, 6, 7, 8, 9, 10, 11], wr := 2560, fl := [(3, 10)], cl := [0, 1, 3, 7, 0, 0, 32, 96, 224, 480, 1023, 2047] }), (2, { ord := [0, 1, 2, 3, 4, 5, 6, 7, 8, 9, 10, 11, 12, 13, 14, 15, 16, 17, 18, 19, 20, 21, 22, 23, 24, 25, 26, 27, 28, 29, 30, 31, 32], wr := 3221225472, fl := [(1, 31), (5, 31), (7, 31), (9, 31), (11, 31)], cl := [0, 0, 0, 4, 12, 28, 0, 64, 192, 448, 1020, 2044, 0, 0, 8192, 24576, 57344, 0, 131072, 393216, 917504, 2088960, 4186112, 0, 8388608, 25165824, 58720256, 0, 260046848, 528482304, 1073737728, 2147483647, 4294967295] })] }
def a163 : FAnn := { draws := [(1, { ord := [0, 1, 2, 3, 4, 5, 6, 7, 8, 9, 10, 11, 12, 13, 14, 15, 16, 17, 18, 19, 20, 21, 22, 23, 24, 25, 26, 27, 28], wr := 335544320, fl := [(3, 27)], cl := [0, 1, 3, 7, 0, 0, 0, 64, 192, 448, 0, 1024, 3072, 7168, 16320, 32704, 0, 65536, 196608, 458752, 0, 1048576, 3145728, 7340032, 16711680, 33488896, 67108832, 134217727, 268435455] })] }
def a164 : FAnn := { draws := [(1, { ord := [0, 1, 2, 3, 4, 5, 6, 7, 8, 9, 10, 11, 12, 13, 14, 15, 16], wr := 65536, cl := [0, 1, 3, 7, 0, 0, 32, 96, 224, 0, 512, 1536, 3584, 8160, 16352, 32767, 65535] }), (2, { ord := [0, 1, 2, 3, 4, 5, 6, 7, 8, 9, 10, 11, 12, 13, 14, 15, 16, 17, 18, 19, 20, 21, 22, 23, 24, 25, 26, 27, 28, 29, 30, 31, 32, 33, 34, 35, 36, 37, 38, 39, 40], wr := 274877931520, fl := [(1, 14), (5, 14), (7, 14), (9, 14), (11, 14)], cl := [0, 0, 0, 4, 12, 28, 0, 64, 192, 448, 1020, 2044, 0, 4096, 16383, 32767, 65535, 65535, 65535, 327679, 851967, 1900543, 65535, 4259839, 12648447, 29425663, 66912255, 134021119, 65535, 268500991, 805371903, 1879113727, 65535, 4295032831, 12884967423, 30064836607, 68451106815, 137170583551, 274877906943, 549755813887, 1099511627775] })] }
def a165 : FAnn := { draws := [(1, { ord := [0, 1, 2, 3, 4, 5, 6, 7, 8, 9, 10, 11], wr := 2560, fl := [(3, 10)], cl := [0, 1, 3, 7, 0, 0, 32, 96, 224, 480, 1023, 2047] }), (5, { ord := [0, 1, 2, 3, 4, 5, 6, 7, 8, 9, 10, 11, 12, 13, 14, 15, 16, 17, 18, 19, 20, 21, 22, 23, 24, 25, 26, 27, 28, 29], wr := 402653184, fl := [(1, 28), (5, 28), (8, 28)], cl := [0, 0, 0, 4, 12, 28, 0, 124, 252, 0, 0, 1024, 3072, 7168, 0, 16384, 49152, 114688, 261120, 523264, 0, 1048576, 3145728, 7340032, 0, 32505856, 66060288, 134217216, 268435455, 536870911] })] }
def a166 : FAnn := { draws := [(1, { ord := [0, 1, 2, 3, 4, 5, 6, 7, 8, 9, 10, 11, 12, 13, 14, 15, 16, 17, 18, 19, 20, 21], cl := [0, 1, 3, 7, 0, 16, 48, 112, 255, 511, 0, 1024, 3072, 7168, 0, 16384, 49152, 114688, 261120, 523264, 1023, 2097151] }), (3, { ord := [0, 1, 2, 3, 4, 5, 6, 7, 8], wr := 320, fl := [(3, 7)], cl := [0, 1, 3, 7, 0, 0, 32, 127, 255] }), (8, { ord := [0, 1, 2, 3, 4, 5, 6, 7, 8], wr := 320, fl := [(3, 7)], cl := [0, 1, 3, 7, 0, 0, 32, 127, 255] })] }
def a167 : FAnn := { draws := [(1, { ord := [10, 0, 1, 2, 3, 4, 5, 6, 7, 8, 9, 11], wr := 2048, nA := 1, cl := [0, 1, 3, 7, 15, 31, 63, 0, 128, 511, 0, 2047] }), (13, { ord := [0, 1, 2, 3, 4, 5, 6, 7, 8, 9, 10, 11, 12, 13, 14, 15, 16, 17], wr := 135168, fl := [(3, 13)], cl := [0, 1, 3, 7, 0, 0, 32, 96, 224, 0, 512, 0, 4064, 8160, 16352, 16352, 32767, 98303] }), (14, { ord := [0, 1, 2, 3, 4, 5, 6, 7, 8, 9, 10, 11, 12, 13, 14, 15, 16, 17, 18, 19, 20, 21, 22, 23], wr := 3145728, fl := [(5, 21), (9, 21), (11, 21), (13, 21), (15, 21)], cl := [0, 1, 3, 7, 15, 15, 15, 79, 207, 463, 15, 1039, 3087, 7183, 16335, 32719, 15, 15, 131087, 15, 983055, 2097151, 4194303, 8388607] })] }
def a168 : FAnn := { draws := [(4, { ord := [0, 1, 2, 3, 4, 5, 6, 7, 8, 9, 10, 11, 12, 13], wr := 8192, cl := [0, 1, 3, 7, 0, 0, 32, 96, 224, 0, 992, 2016, 4095, 8191] })] }
def a169 : FAnn := { draws := [(1, { ord := [0, 1, 2, 3, 4, 5, 6, 7, 8, 9, 10, 11], wr := 2560, fl := [(3, 10)], cl := [0, 1, 3, 7, 0, 0, 32, 96, 224, 480, 1023, 2047] })] }
def a170 : FAnn := { draws := [(9, { ord := [0, 1, 2, 3, 4, 5, 6, 7, 8, 9], wr := 640, fl := [(3, 8)], cl := [0, 1, 3, 7, 0, 0, 0, 96, 255, 511] })] }
def a192 : FAnn := { draws := [(1, { ord := [0, 1, 2, 3, 4, 5, 6, 7, 8, 9, 10, 11, 12, 13, 14, 15, 16, 17, 18, 19, 20, 21, 22, 23, 24, 25, 26, 27, 28], wr := 67108864, cl := [0, 1, 3, 7, 0, 16, 48, 112, 240, 511, 1023, 2047, 4095, 8191, 16383, 2047, 34815, 100351, 231423, 2047, 526335, 1574911, 3672063, 8357887, 16746495, 2047, 67108863, 134217727, 268435455] })] }
def a193 : FAnn := { frz := [46] }
def a196 : FAnn := { draws := [(2, { ord := [0, 1, 2, 3, 4, 5, 6], wr := 40, fl := [(4, 0)], cl := [0, 0, 0, 6, 0, 31, 63] })] }
def a198 : FAnn := { draws := [(7, { ord := [0, 1, 2, 3, 4, 5, 6, 7, 8, 9, 10, 11, 12, 13], wr := 4112, fl := [(8, 0)], cl := [0, 0, 0, 0, 12, 0, 0, 96, 224, 0, 992, 2046, 4095, 8191] })] }
def a200 : FAnn := { draws := [(1, { ord := [0, 1, 2, 3, 4, 5, 6, 7, 8, 9, 10], wr := 1152, cl := [0, 0, 2, 6, 14, 0, 32, 126, 255, 511, 1023] })] }
def a206 : FAnn := { draws := [(6, { ord := [0, 1, 2, 3, 4, 5, 6, 7, 8], cl := [0, 0, 3, 7, 0, 0, 48, 112, 255] })] }
def a212 : FAnn := { marr := [34], draws := [(3, { ord := [0, 1, 2, 3, 4, 5, 6, 7, 8, 9, 10, 11, 12], wr := 6144, cl := [0, 0, 2, 6, 14, 0, 32, 96, 254, 510, 1022, 2046, 4095] })] }
def a213 : FAnn := { marr := [10, 21, 40, 51], draws := [(11, { ord := [0, 1, 2, 3, 4, 5, 6, 7, 8, 9, 10, 11, 12, 13], wr := 8192, cl := [0, 0, 2, 6, 14, 0, 32, 0, 0, 256, 768, 1792, 3968, 8191] })] }
def a214 : FAnn := { marr := [37] }
def a216 : FAnn := { marr := [34] }
def a223 : FAnn := { draws := [(18, { ord := [0, 1, 2, 3, 4, 5, 6, 7, 8], wr := 128, cl := [0, 0, 2, 6, 0, 16, 48, 127, 255] }), (19, { ord := [0, 1, 2, 3, 4, 5, 6, 7, 8, 9, 10, 11, 12], wr := 128, cl := [0, 1, 3, 7, 0, 16, 0, 127, 255, 511, 511, 1023, 4095] })] }
def a224 : FAnn := { keep := [6, 7, 8, 9, 10, 11, 35, 36, 37, 38, 39, 40, 41, 48, 49, 50, 51, 52, 53], heap := [8, 9], marr := [17, 33] }
def a251 : FAnn := { draws := [(1, { ord := [0, 1, 2, 3, 4, 5, 6, 7, 8, 9, 10, 11, 12, 13, 14, 15, 16, 17, 18, 19, 20, 21, 22, 23, 24, 25], cl := [0, 1, 3, 7, 0, 16, 48, 112, 240, 511, 1023, 2047, 4095, 8191, 16383, 2047, 34815, 100351, 231423, 524287, 1048575, 2097151, 2047, 8388607, 16777215, 33554431] })] }
def a252 : FAnn := { draws := [(2, { ord := [0, 1, 2, 3, 4, 5, 6, 7], wr := 72, fl := [(5, 0)], cl := [0, 0, 0, 6, 14, 0, 63, 127] })] }
def a253 : FAnn := { draws := [(1, { ord := [0, 1, 2, 3, 4, 5, 6], wr := 32, cl := [0, 1, 3, 7, 0, 31, 63] })] }
def a256 : FAnn := { marr := [25], draws := [(2, { ord := [8, 0, 1, 2, 3, 4, 5, 6, 7, 9], wr := 576, nA := 1, fl := [(2, 8), (4, 8)], cl := [0, 1, 0, 4, 0, 0, 48, 127, 0, 511] })] }
def a257 : FAnn := { draws := [(2, { ord := [0, 1, 2, 3, 4, 5, 6, 7, 8, 9, 10, 11], wr := 2048, cl := [0, 1, 3, 7, 0, 16, 48, 112, 240, 511, 1023, 2047] })] }
def a261 : FAnn := { marr := [12] }
def a264 : FAnn := { marr := [14], frz := [39] }
def a267 : FAnn := { heap := [5] }
def a274 : FAnn := { marr := [29] }
def a275 : FAnn := { marr := [37] }
def a276 : FAnn := { heap := [3, 5], marr := [33, 43, 51, 67] }
def a281 : FAnn := { frz := [61] }
def a300 : FAnn := { heap := [2, 3], marr := [9] }
def a304 : FAnn := { draws := [(7, { ord := [0, 1, 2, 3, 4, 5, 6, 7, 8, 9, 10, 11, 12, 13, 14], wr := 20480, cl := [0, 0, 2, 0, 0, 16, 0, 64, 192, 0, 512, 455, 2503, 8191, 16383] }), (8, { ord := [0, 1, 2, 3, 4, 5, 6, 7, 8, 9, 10, 11, 12, 13, 14], wr := 20480, cl := [0, 0, 2, 0, 0, 16, 0, 64, 192, 0, 512, 455, 2503, 8191, 16383] }), (9, { ord := [0, 1, 2, 3, 4, 5, 6, 7, 8, 9, 10, 11, 12, 13, 14], wr := 20480, cl := [0, 0, 2, 0, 0, 16, 0, 64, 192, 0, 512, 455, 2503, 8191, 16383] }), (10, { ord := [0, 1, 2, 3, 4, 5, 6, 7, 8, 9, 10, 11, 12, 13, 14], wr := 20480, cl := [0, 0, 2, 0, 0, 16, 0, 64, 192, 0, 512, 455, 2503, 8191, 16383] }), (17, { ord := [0, 1, 2, 3, 4, 5, 6, 7, 8, 9, 10, 11, 12, 13, 14], wr := 20480, cl := [0, 0, 2, 0, 0, 16, 0, 64, 192, 0, 512, 455, 2503, 8191, 16383] }), (18, { ord := [0, 1, 2, 3, 4, 5, 6, 7, 8, 9, 10, 11, 12, 13, 14], wr := 20480, cl := [0, 0, 2, 0, 0, 16, 0, 64, 192, 0, 512, 455, 2503, 8191, 16383] }), (23, { ord := [0, 1, 2, 3, 4, 5, 6, 7, 8, 9, 10, 11, 12, 13, 14], wr := 20480, cl := [0, 0, 2, 0, 0, 16, 0, 64, 192, 0, 512, 455, 2503, 8191, 16383] })] }
def a305 : FAnn := { heap := [12] }
def a306 : FAnn := { heap := [3, 5], marr := [16, 24, 33, 43, 53, 60, 79], draws := [(8, { ord := [0, 1, 2, 3, 4, 5], wr := 56, fl := [(0, 4), (0, 5)], cl := [0, 0, 2, 6, 14, 31] }), (10, { ord := [0, 1, 2, 3, 4, 5], wr := 56, fl := [(0, 4), (0, 5)], cl := [0, 0, 2, 6, 14, 31] })] }
def a307 : FAnn := { marr := [32] }
def a309 : FAnn := { marr := [9, 21, 28] }
def a315 : FAnn := { marr := [9], draws := [(6, { ord := [0, 1, 2, 3, 4, 5, 6, 7, 8, 9, 10, 11, 12, 13, 14, 15, 16, 17], wr := 73760, fl := [(12, 0)], cl := [0, 0, 0, 4, 12, 30, 0, 0, 0, 256, 768, 1920, 3968, 8190, 0, 32766, 65535, 131071] })] }
def a316 : FAnn := { marr := [37], draws := [(5, { ord := [8, 0, 1, 2, 3, 4, 5, 6, 7, 9], wr := 576, nA := 1, fl := [(2, 8), (4, 8)], cl := [0, 1, 0, 4, 0, 0, 48, 127, 0, 511] })] }
def a317 : FAnn := { marr := [5] }
def a332 : FAnn := { draws := [(4, { ord := [0, 1, 2, 3, 4, 5, 6, 7, 8, 9, 10, 11, 12, 13], wr := 4360, fl := [(5, 0), (5, 9), (7, 0)], cl := [0, 0, 0, 6, 0, 16, 0, 0, 206, 0, 512, 2046, 4095, 8191] })] }
def a333 : FAnn := { heap := [2, 3], draws := [(5, { ord := [0, 1, 2, 3, 4, 5], wr := 24, fl := [(0, 4)], cl := [0, 0, 0, 4, 15, 31] }), (10, { ord := [0, 1, 2, 3, 4, 5, 6], wr := 40, fl := [(0, 4), (4, 0)], cl := [0, 0, 0, 6, 0, 31, 63] }), (12, { ord := [0, 1, 2, 3, 4], wr := 12, fl := [(0, 3)], cl := [0, 0, 2, 7, 15] }), (14, { ord := [0, 1, 2, 3, 4], wr := 12, fl := [(0, 3)], cl := [0, 0, 2, 7, 15] }), (16, { ord := [0, 1, 2, 3, 4], wr := 12, fl := [(0, 3)], cl := [0, 0, 2, 7, 15] })] }
def a336 : FAnn := { heap := [2, 3], draws := [(5, { ord := [0, 1, 2, 3, 4, 5], wr := 24, fl := [(0, 4)], cl := [0, 0, 0, 4, 15, 31] }), (8, { ord := [0, 1, 2, 3, 4, 5, 6], wr := 40, fl := [(0, 4), (4, 0)], cl := [0, 0, 0, 6, 0, 31, 63] }), (11, { ord := [0, 1, 2, 3, 4, 5, 6], wr := 40, fl := [(0, 4), (4, 0)], cl := [0, 0, 0, 6, 0, 31, 63] }), (13, { ord := [0, 1, 2, 3, 4], wr := 12, fl := [(0, 3)], cl := [0, 0, 2, 7, 15] }), (15, { ord := [0, 1, 2, 3, 4], wr := 12, fl := [(0, 3)], cl := [0, 0, 2, 7, 15] })] }
def a340 : FAnn := { heap := [3, 5], marr := [18, 27, 35, 43, 48], draws := [(8, { ord := [0, 1, 2, 3, 4, 5], wr := 56, fl := [(0, 4), (0, 5)], cl := [0, 0, 2, 6, 14, 31] }), (10, { ord := [0, 1, 2, 3, 4, 5], wr := 56, fl := [(0, 4), (0, 5)], cl := [0, 0, 2, 6, 14, 31] })] }
def a344 : FAnn := { marr := [30], draws := [(5, { ord := [0, 1, 2, 3, 4, 5, 6], wr := 40, fl := [(4, 0)], cl := [0, 0, 0, 6, 0, 31, 63] }), (14, { ord := [0, 1, 2, 3, 4, 5, 6, 7, 8, 9, 10], wr := 576, fl := [(3, 7)], cl := [0, 0, 0, 4, 0, 0, 48, 0, 254, 511, 1023] })] }
def a345 : FAnn := { draws := [(4, { ord := [0, 1, 2, 3, 4, 5, 6, 7, 8, 9, 10, 11, 12, 13, 14], wr := 2048, cl := [0, 0, 2, 6, 14, 0, 32, 96, 224, 510, 1022, 2047, 4095, 8191, 0] })] }
def a346 : FAnn := { marr := [27], frz := [48] }
def an63_64 : Tr FAnn := .node (.node .nil (some a127) .nil) (some a63) .nil
def an95_64 : Tr FAnn := .node (.node .nil (some a159) .nil) none (.node .nil (some a223) .nil)
def an31_32 : Tr FAnn := .node an63_64 (some a31) an95_64
def an15_16 : Tr FAnn := .node an31_32 none (.node .nil (some a47) .nil)
def an71_64 : Tr FAnn := .node (.node .nil (some a135) .nil) (some a71) .nil
def an103_64 : Tr FAnn := .node (.node .nil (some a167) .nil) none .nil
def an39_32 : Tr FAnn := .node an71_64 none an103_64
def an55_32 : Tr FAnn := .node (.node .nil (some a87) .nil) none (.node .nil (some a119) .nil)
def an23_16 : Tr FAnn := .node an39_32 none an55_32
def an7_8 : Tr FAnn := .node an15_16 none an23_16
def an99_64 : Tr FAnn := .node (.node .nil (some a163) .nil) none .nil
def an35_32 : Tr FAnn := .node (.node .nil (some a67) .nil) (some a35) an99_64
def an147_128 : Tr FAnn := .node (.node .nil (some a275) .nil) none .nil
def an83_64 : Tr FAnn := .node an147_128 none .nil
def an179_128 : Tr FAnn := .node (.node .nil (some a307) .nil) none .nil
def an115_64 : Tr FAnn := .node an179_128 none .nil
def an51_32 : Tr FAnn := .node an83_64 none an115_64
def an19_16 : Tr FAnn := .node an35_32 none an51_32
def an139_128 : Tr FAnn := .node (.node .nil (some a267) .nil) none .nil
def an75_64 : Tr FAnn := .node an139_128 (some a75) .nil
def an43_32 : Tr FAnn := .node an75_64 none .nil
def an187_128 : Tr FAnn := .node (.node .nil (some a315) .nil) none .nil
def an123_64 : Tr FAnn := .node an187_128 (some a123) (.node .nil (some a251) .nil)
def an59_32 : Tr FAnn := .node .nil none an123_64
def an27_16 : Tr FAnn := .node an43_32 (some a27) an59_32
def an11_8 : Tr FAnn := .node an19_16 none an27_16
def an3_4 : Tr FAnn := .node an7_8 none an11_8
def an129_128 : Tr FAnn := .node (.node .nil (some a257) .nil) none .nil
def an65_64 : Tr FAnn := .node an129_128 (some a65) (.node .nil (some a193) .nil)
def an97_64 : Tr FAnn := .node (.node .nil (some a161) .nil) none .nil
def an33_32 : Tr FAnn := .node an65_64 (some a33) an97_64
def an177_128 : Tr FAnn := .node (.node .nil (some a305) .nil) none .nil
def an113_64 : Tr FAnn := .node an177_128 none .nil
def an49_32 : Tr FAnn := .node (.node .nil (some a81) .nil) (some a49) an113_64
def an17_16 : Tr FAnn := .node an33_32 (some a17) an49_32
def an73_64 : Tr FAnn := .node (.node .nil (some a137) .nil) (some a73) .nil
def an105_64 : Tr FAnn := .node (.node .nil (some a169) .nil) none .nil
def an41_32 : Tr FAnn := .node an73_64 none an105_64
def an153_128 : Tr FAnn := .node (.node .nil (some a281) .nil) none .nil
def an217_128 : Tr FAnn := .node (.node .nil (some a345) .nil) none .nil
def an89_64 : Tr FAnn := .node an153_128 (some a89) an217_128
def an57_32 : Tr FAnn := .node an89_64 none .nil
def an25_16 : Tr FAnn := .node an41_32 (some a25) an57_32
def an9_8 : Tr FAnn := .node an17_16 none an25_16
def an133_128 : Tr FAnn := .node (.node .nil (some a261) .nil) none .nil
def an69_64 : Tr FAnn := .node an133_128 (some a69) .nil
def an101_64 : Tr FAnn := .node (.node .nil (some a165) .nil) none .nil
def an37_32 : Tr FAnn := .node an69_64 none an101_64
def an85_64 : Tr FAnn := .node (.node .nil (some a149) .nil) none (.node .nil (some a213) .nil)
def an181_128 : Tr FAnn := .node (.node .nil (some a309) .nil) none .nil
def an117_64 : Tr FAnn := .node an181_128 none .nil
def an53_32 : Tr FAnn := .node an85_64 none an117_64
def an21_16 : Tr FAnn := .node an37_32 none an53_32
def an205_128 : Tr FAnn := .node (.node .nil (some a333) .nil) none .nil
def an77_64 : Tr FAnn := .node .nil (some a77) an205_128
def an45_32 : Tr FAnn := .node an77_64 none .nil
def an93_64 : Tr FAnn := .node (.node .nil (some a157) .nil) none .nil
def an189_128 : Tr FAnn := .node (.node .nil (some a317) .nil) none .nil
def an125_64 : Tr FAnn := .node an189_128 (some a125) (.node .nil (some a253) .nil)
def an61_32 : Tr FAnn := .node an93_64 none an125_64
def an29_16 : Tr FAnn := .node an45_32 none an61_32
def an13_8 : Tr FAnn := .node an21_16 none an29_16
def an5_4 : Tr FAnn := .node an9_8 (some a5) an13_8
def an1_2 : Tr FAnn := .node an3_4 none an5_4
def an128_128 : Tr FAnn := .node (.node .nil (some a256) .nil) (some a128) .nil
def an64_64 : Tr FAnn := .node an128_128 none (.node .nil (some a192) .nil)
def an96_64 : Tr FAnn := .node (.node .nil (some a160) .nil) none (.node .nil (some a224) .nil)
def an32_32 : Tr FAnn := .node an64_64 (some a32) an96_64
def an208_128 : Tr FAnn := .node (.node .nil (some a336) .nil) none .nil
def an80_64 : Tr FAnn := .node .nil none an208_128
def an176_128 : Tr FAnn := .node (.node .nil (some a304) .nil) none .nil
def an112_64 : Tr FAnn := .node an176_128 none .nil
def an48_32 : Tr FAnn := .node an80_64 (some a48) an112_64
def an16_16 : Tr FAnn := .node an32_32 none an48_32
def an136_128 : Tr FAnn := .node (.node .nil (some a264) .nil) none .nil
def an72_64 : Tr FAnn := .node an136_128 (some a72) (.node .nil (some a200) .nil)
def an104_64 : Tr FAnn := .node (.node .nil (some a168) .nil) none .nil
def an40_32 : Tr FAnn := .node an72_64 none an104_64
def an216_128 : Tr FAnn := .node (.node .nil (some a344) .nil) (some a216) .nil
def an88_64 : Tr FAnn := .node .nil (some a88) an216_128
def an56_32 : Tr FAnn := .node an88_64 none .nil
def an24_16 : Tr FAnn := .node an40_32 none an56_32
def an8_8 : Tr FAnn := .node an16_16 none an24_16
def an68_64 : Tr FAnn := .node .nil none (.node .nil (some a196) .nil)
def an100_64 : Tr FAnn := .node (.node .nil (some a164) .nil) none .nil
def an36_32 : Tr FAnn := .node an68_64 none an100_64
def an148_128 : Tr FAnn := .node (.node .nil (some a276) .nil) none .nil
def an212_128 : Tr FAnn := .node (.node .nil (some a340) .nil) (some a212) .nil
def an84_64 : Tr FAnn := .node an148_128 none an212_128
def an52_32 : Tr FAnn := .node an84_64 none .nil
def an20_16 : Tr FAnn := .node an36_32 none an52_32
def an204_128 : Tr FAnn := .node (.node .nil (some a332) .nil) none .nil
def an76_64 : Tr FAnn := .node (.node .nil (some a140) .nil) (some a76) an204_128
def an172_128 : Tr FAnn := .node (.node .nil (some a300) .nil) none .nil
def an108_64 : Tr FAnn := .node an172_128 none .nil
def an44_32 : Tr FAnn := .node an76_64 none an108_64
def an92_64 : Tr FAnn := .node (.node .nil (some a156) .nil) (some a92) .nil
def an188_128 : Tr FAnn := .node (.node .nil (some a316) .nil) none .nil
def an124_64 : Tr FAnn := .node an188_128 none (.node .nil (some a252) .nil)
def an60_32 : Tr FAnn := .node an92_64 none an124_64
def an28_16 : Tr FAnn := .node an44_32 (some a28) an60_32
def an12_8 : Tr FAnn := .node an20_16 none an28_16
def an4_4 : Tr FAnn := .node an8_8 none an12_8
def an98_64 : Tr FAnn := .node (.node .nil (some a162) .nil) none .nil
def an34_32 : Tr FAnn := .node (.node .nil (some a66) .nil) (some a34) an98_64
def an146_128 : Tr FAnn := .node (.node .nil (some a274) .nil) none .nil
def an82_64 : Tr FAnn := .node an146_128 none .nil
def an178_128 : Tr FAnn := .node (.node .nil (some a306) .nil) none .nil
def an114_64 : Tr FAnn := .node an178_128 none .nil
def an50_32 : Tr FAnn := .node an82_64 (some a50) an114_64
def an18_16 : Tr FAnn := .node an34_32 none an50_32
def an74_64 : Tr FAnn := .node (.node .nil (some a138) .nil) (some a74) .nil
def an106_64 : Tr FAnn := .node (.node .nil (some a170) .nil) none .nil
def an42_32 : Tr FAnn := .node an74_64 none an106_64
def an218_128 : Tr FAnn := .node (.node .nil (some a346) .nil) none .nil
def an90_64 : Tr FAnn := .node .nil none an218_128
def an58_32 : Tr FAnn := .node an90_64 none (.node .nil (some a122) .nil)
def an26_16 : Tr FAnn := .node an42_32 (some a26) an58_32
def an10_8 : Tr FAnn := .node an18_16 none an26_16
def an70_64 : Tr FAnn := .node (.node .nil (some a134) .nil) (some a70) (.node .nil (some a198) .nil)
def an102_64 : Tr FAnn := .node (.node .nil (some a166) .nil) none .nil
def an38_32 : Tr FAnn := .node an70_64 (some a38) an102_64
def an86_64 : Tr FAnn := .node .nil (some a86) (.node .nil (some a214) .nil)
def an54_32 : Tr FAnn := .node an86_64 none .nil
def an22_16 : Tr FAnn := .node an38_32 (some a22) an54_32
def an78_64 : Tr FAnn := .node .nil (some a78) (.node .nil (some a206) .nil)
def an46_32 : Tr FAnn := .node an78_64 (some a46) .nil
def an94_64 : Tr FAnn := .node (.node .nil (some a158) .nil) none .nil
def an62_32 : Tr FAnn := .node an94_64 (some a62) (.node .nil (some a126) .nil)
def an30_16 : Tr FAnn := .node an46_32 (some a30) an62_32
def an14_8 : Tr FAnn := .node an22_16 (some a14) an30_16
def an6_4 : Tr FAnn := .node an10_8 none an14_8
def an2_2 : Tr FAnn := .node an4_4 none an6_4
def an0_1 : Tr FAnn := .node an1_2 none an2_2
def ti1 : TI := ⟨.func, 1, false, 8, [.nilfunc]⟩
def ti2 : TI := ⟨.int .i64, 1, false, 8, [.int .i64 0]⟩
def ti3 : TI := ⟨.int .i64, 1, false, 8, [.int .i64 0]⟩
def ti4 : TI := ⟨.bool, 1, false, 1, [.bool false]⟩
def ti5 : TI := ⟨.int .u8, 1, false, 1, [.int .u8 0]⟩
def ti6 : TI := ⟨.int .u8, 1, false, 1, [.int .u8 0]⟩
def ti7 : TI := ⟨.struct [(0, 1, false), (1, 1, false), (2, 1, false), (3, 1, false)], 4, true, 24, [.int .i64 0, .int .i64 0, .bool false, .int .u8 0]⟩
def ti8 : TI := ⟨.struct [(0, 1, false), (1, 1, false), (2, 1, false), (3, 1, false)], 4, true, 24, [.int .i64 0, .int .i64 0, .bool false, .int .u8 0]⟩
def ti9 : TI := ⟨.string, 1, false, 16, [.str []]⟩
def ti10 : TI := ⟨.string, 1, false, 16, [.str []]⟩
def ti11 : TI := ⟨.string, 1, false, 16, [.str []]⟩
def ti12 : TI := ⟨.int .u64, 1, false, 8, [.int .u64 0]⟩
def ti13 : TI := ⟨.struct [(0, 1, false), (1, 1, false)], 2, true, 24, [.str [], .int .u64 0]⟩
def ti14 : TI := ⟨.struct [(0, 1, false), (1, 1, false)], 2, true, 24, [.str [], .int .u64 0]⟩
def ti15 : TI := ⟨.pointer 348, 1, false, 8, [.nilptr]⟩
def ti16 : TI := ⟨.pointer 351, 1, false, 8, [.nilptr]⟩
def ti17 : TI := ⟨.pointer 358, 1, false, 8, [.nilptr]⟩
def ti18 : TI := ⟨.struct [(0, 1, false)], 1, true, 8, [.nilptr]⟩
def ti19 : TI := ⟨.struct [(0, 1, false)], 1, true, 8, [.nilptr]⟩
def ti20 : TI := ⟨.iface, 1, false, 16, [.niliface]⟩
def ti21 : TI := ⟨.int .i32, 1, false, 4, [.int .i32 0]⟩
def ti22 : TI := ⟨.slice 109, 1, false, 24, [.nilslice]⟩
def ti23 : TI := ⟨.slice 81, 1, false, 24, [.nilslice]⟩
def ti24 : TI := ⟨.struct [(0, 1, false), (1, 1, false)], 2, true, 48, [.nilslice, .nilslice]⟩
def ti25 : TI := ⟨.struct [(0, 1, false), (1, 1, false)], 2, true, 48, [.nilslice, .nilslice]⟩
def ti26 : TI := ⟨.slice 42, 1, false, 24, [.nilslice]⟩
def ti27 : TI := ⟨.slice 74, 1, false, 24, [.nilslice]⟩
def ti28 : TI := ⟨.func, 1, false, 8, [.nilfunc]⟩
def ti29 : TI := ⟨.func, 1, false, 8, [.nilfunc]⟩
def ti30 : TI := ⟨.func, 1, false, 8, [.nilfunc]⟩
def ti31 : TI := ⟨.func, 1, false, 8, [.nilfunc]⟩
def ti32 : TI := ⟨.func, 1, false, 8, [.nilfunc]⟩
def ti33 : TI := ⟨.slice 40, 1, false, 24, [.nilslice]⟩
def ti34 : TI := ⟨.struct [(0, 1, false), (1, 1, false), (2, 1, false)], 3, true, 24, [.int .i64 0, .int .i64 0, .int .i64 0]⟩
def ti35 : TI := ⟨.struct [(0, 1, false), (1, 1, false), (2, 1, false)], 3, true, 24, [.int .i64 0, .int .i64 0, .int .i64 0]⟩
def ti37 : TI := ⟨.func, 1, false, 8, [.nilfunc]⟩
def ti38 : TI := ⟨.func, 1, false, 8, [.nilfunc]⟩
def ti39 : TI := ⟨.struct [(0, 1, false), (1, 1, false), (2, 1, false), (3, 1, false)], 4, true, 56, [.int .i64 0, .int .i64 0, .str [], .nilslice]⟩
def ti40 : TI := ⟨.struct [(0, 1, false), (1, 1, false), (2, 1, false), (3, 1, false)], 4, true, 56, [.int .i64 0, .int .i64 0, .str [], .nilslice]⟩
def ti41 : TI := ⟨.struct [(0, 1, false), (1, 4, true)], 5, true, 72, [.str [], .int .i64 0, .int .i64 0, .str [], .nilslice]⟩
def ti42 : TI := ⟨.struct [(0, 1, false), (1, 4, true)], 5, true, 72, [.str [], .int .i64 0, .int .i64 0, .str [], .nilslice]⟩
def ti44 : TI := ⟨.func, 1, false, 8, [.nilfunc]⟩
def ti53 : TI := ⟨.int .i64, 1, false, 8, [.int .i64 0]⟩
def ti58 : TI := ⟨.pointer 117, 1, false, 8, [.nilptr]⟩
def ti61 : TI := ⟨.map 3 109, 1, false, 8, [.nilmap]⟩
def ti62 : TI := ⟨.func, 1, false, 8, [.nilfunc]⟩
def ti64 : TI := ⟨.func, 1, false, 8, [.nilfunc]⟩
def ti65 : TI := ⟨.func, 1, false, 8, [.nilfunc]⟩
def ti72 : TI := ⟨.slice 3, 1, false, 24, [.nilslice]⟩
def ti74 : TI := ⟨.struct [(0, 1, false), (1, 1, false), (2, 1, false), (3, 1, false), (4, 1, false), (5, 1, false)], 6, true, 72, [.int .i64 0, .int .i64 0, .int .i64 0, .int .i64 0, .str [], .nilslice]⟩
def ti77 : TI := ⟨.func, 1, false, 8, [.nilfunc]⟩
def ti81 : TI := ⟨.struct [(0, 1, false), (1, 1, false), (2, 1, false), (3, 1, false), (4, 4, true)], 8, true, 104, [.str [], .str [], .int .i64 0, .bool false, .int .i64 0, .int .i64 0, .str [], .nilslice]⟩
def ti86 : TI := ⟨.pointer 93, 1, false, 8, [.nilptr]⟩
def ti89 : TI := ⟨.map 9 40, 1, false, 8, [.nilmap]⟩
def ti90 : TI := ⟨.map 9 81, 1, false, 8, [.nilmap]⟩
def ti91 : TI := ⟨.slice 165, 1, false, 24, [.nilslice]⟩
def ti93 : TI := ⟨.struct [(0, 1, false), (1, 1, false), (2, 1, false), (3, 1, false), (4, 3, true)], 7, true, 88, [.nilslice, .nilmap, .nilmap, .nilslice, .int .i64 0, .int .i64 0, .int .i64 0]⟩
def ti94 : TI := ⟨.pointer 97, 1, false, 8, [.nilptr]⟩
def ti97 : TI := ⟨.struct [(0, 1, false), (1, 1, false), (2, 1, false), (3, 1, false), (4, 3, true)], 7, true, 88, [.nilptr, .nilptr, .nilslice, .nilslice, .int .i64 0, .int .i64 0, .int .i64 0]⟩
def ti109 : TI := ⟨.struct [(0, 1, false), (1, 1, false)], 2, true, 24, [.str [], .int .i64 0]⟩
def ti111 : TI := ⟨.map 3 3, 1, false, 8, [.nilmap]⟩
def ti114 : TI := ⟨.func, 1, false, 8, [.nilfunc]⟩
def ti115 : TI := ⟨.slice 123, 1, false, 24, [.nilslice]⟩
def ti117 : TI := ⟨.struct [(0, 1, false), (1, 1, false), (2, 1, false), (3, 1, false)], 4, true, 96, [.nilslice, .nilslice, .nilslice, .nilslice]⟩
def ti119 : TI := ⟨.func, 1, false, 8, [.nilfunc]⟩
def ti123 : TI := ⟨.struct [(0, 1, false), (1, 1, false), (2, 1, false)], 3, true, 48, [.int .i64 0, .str [], .nilslice]⟩
def ti125 : TI := ⟨.slice 211, 1, false, 24, [.nilslice]⟩
def ti127 : TI := ⟨.func, 1, false, 8, [.nilfunc]⟩
def ti128 : TI := ⟨.func, 1, false, 8, [.nilfunc]⟩
def ti131 : TI := ⟨.func, 1, false, 8, [.nilfunc]⟩
def ti132 : TI := ⟨.func, 1, false, 8, [.nilfunc]⟩
def ti135 : TI := ⟨.pointer 138, 1, false, 8, [.nilptr]⟩
def ti136 : TI := ⟨.slice 5, 1, false, 24, [.nilslice]⟩
def ti138 : TI := ⟨.struct [(0, 1, false), (1, 1, false)], 2, true, 32, [.nilptr, .nilslice]⟩
def ti141 : TI := ⟨.func, 1, false, 8, [.nilfunc]⟩
def ti142 : TI := ⟨.pointer 144, 1, false, 8, [.nilptr]⟩
def ti144 : TI := ⟨.struct [(0, 1, false), (1, 2, true), (3, 1, false)], 4, true, 64, [.nilslice, .nilptr, .nilslice, .bool false]⟩
def ti150 : TI := ⟨.func, 1, false, 8, [.nilfunc]⟩
def ti151 : TI := ⟨.func, 1, false, 8, [.nilfunc]⟩
def ti156 : TI := ⟨.map 9 3, 1, false, 8, [.nilmap]⟩
def ti157 : TI := ⟨.map 9 158, 1, false, 8, [.nilmap]⟩
def ti158 : TI := ⟨.struct [], 0, true, 0, []⟩
def ti160 : TI := ⟨.func, 1, false, 8, [.nilfunc]⟩
def ti162 : TI := ⟨.func, 1, false, 8, [.nilfunc]⟩
def ti163 : TI := ⟨.func, 1, false, 8, [.nilfunc]⟩
def ti164 : TI := ⟨.pointer 3, 1, false, 8, [.nilptr]⟩
def ti165 : TI := ⟨.pointer 249, 1, false, 8, [.nilptr]⟩
def ti166 : TI := ⟨.func, 1, false, 8, [.nilfunc]⟩
def ti167 : TI := ⟨.func, 1, false, 8, [.nilfunc]⟩
def ti168 : TI := ⟨.func, 1, false, 8, [.nilfunc]⟩
def ti170 : TI := ⟨.func, 1, false, 8, [.nilfunc]⟩
def ti172 : TI := ⟨.func, 1, false, 8, [.nilfunc]⟩
def ti202 : TI := ⟨.pointer 206, 1, false, 8, [.nilptr]⟩
def ti203 : TI := ⟨.slice 259, 1, false, 24, [.nilslice]⟩
def ti206 : TI := ⟨.struct [(0, 1, false), (1, 1, false), (2, 1, false), (3, 1, false)], 4, true, 72, [.str [], .nilslice, .int .i64 0, .nilslice]⟩
def ti207 : TI := ⟨.func, 1, false, 8, [.nilfunc]⟩
def ti208 : TI := ⟨.array 2 3, 2, true, 16, [.int .i64 0, .int .i64 0]⟩
def ti209 : TI := ⟨.slice 208, 1, false, 24, [.nilslice]⟩
def ti211 : TI := ⟨.struct [(0, 1, false), (1, 1, false), (2, 1, false), (3, 1, false)], 4, true, 32, [.int .i64 0, .int .i64 0, .int .i64 0, .int .i64 0]⟩
def ti214 : TI := ⟨.struct [(0, 1, false), (1, 1, false)], 2, true, 16, [.int .i64 0, .int .i64 0]⟩
def ti215 : TI := ⟨.slice 214, 1, false, 24, [.nilslice]⟩
def ti216 : TI := ⟨.pointer 214, 1, false, 8, [.nilptr]⟩
def ti217 : TI := ⟨.func, 1, false, 8, [.nilfunc]⟩
def ti218 : TI := ⟨.func, 1, false, 8, [.nilfunc]⟩
def ti220 : TI := ⟨.func, 1, false, 8, [.nilfunc]⟩
def ti221 : TI := ⟨.func, 1, false, 8, [.nilfunc]⟩
def ti222 : TI := ⟨.func, 1, false, 8, [.nilfunc]⟩
def ti224 : TI := ⟨.iface, 1, false, 16, [.niliface]⟩
def ti231 : TI := ⟨.pointer 5, 1, false, 8, [.nilptr]⟩
def ti232 : TI := ⟨.func, 1, false, 8, [.nilfunc]⟩
def ti233 : TI := ⟨.func, 1, false, 8, [.nilfunc]⟩
def ti235 : TI := ⟨.func, 1, false, 8, [.nilfunc]⟩
def ti249 : TI := ⟨.struct [(0, 1, false), (1, 1, false), (2, 1, false), (3, 1, false)], 4, true, 40, [.str [], .int .i64 0, .bool false, .nilptr]⟩
def ti252 : TI := ⟨.func, 1, false, 8, [.nilfunc]⟩
def ti253 : TI := ⟨.func, 1, false, 8, [.nilfunc]⟩
def ti259 : TI := ⟨.struct [(0, 1, false), (1, 1, false), (2, 1, false)], 3, true, 24, [.int .i64 0, .int .i64 0, .int .i64 0]⟩
def ti277 : TI := ⟨.func, 1, false, 8, [.nilfunc]⟩
def ti278 : TI := ⟨.func, 1, false, 8, [.nilfunc]⟩
def ti282 : TI := ⟨.slice 9, 1, false, 24, [.nilslice]⟩
def ti284 : TI := ⟨.func, 1, false, 8, [.nilfunc]⟩
def ti308 : TI := ⟨.func, 1, false, 8, [.nilfunc]⟩
def ti312 : TI := ⟨.unsafePointer, 1, false, 8, [.nilptr]⟩
def ti317 : TI := ⟨.array 13 9, 13, true, 208, List.replicate 13 (.str [])⟩
def ti319 : TI := ⟨.func, 1, false, 8, [.nilfunc]⟩
def ti325 : TI := ⟨.array 24 5, 24, true, 24, List.replicate 24 (.int .u8 0)⟩
def ti326 : TI := ⟨.int .u64, 1, false, 8, [.int .u64 0]⟩
def ti327 : TI := ⟨.func, 1, false, 8, [.nilfunc]⟩
def ti328 : TI := ⟨.func, 1, false, 8, [.nilfunc]⟩
def ti334 : TI := ⟨.array 20 326, 20, true, 160, List.replicate 20 (.int .u64 0)⟩
def ti335 : TI := ⟨.int .u32, 1, false, 4, [.int .u32 0]⟩
def ti336 : TI := ⟨.array 65 5, 65, true, 65, List.replicate 65 (.int .u8 0)⟩
def ti337 : TI := ⟨.int .u64, 1, false, 8, [.int .u64 0]⟩
def ti343 : TI := ⟨.array 32 5, 32, true, 32, List.replicate 32 (.int .u8 0)⟩
def ti344 : TI := ⟨.array 64 5, 64, true, 64, List.replicate 64 (.int .u8 0)⟩
def ti347 : TI := ⟨.struct [(0, 1, false), (1, 1, false), (2, 1, false), (3, 1, false)], 4, true, 40, [.nilptr, .nilptr, .nilptr, .str []]⟩
def ti348 : TI := ⟨.struct [(0, 1, false), (1, 1, false), (2, 1, false), (3, 1, false)], 4, true, 40, [.nilptr, .nilptr, .nilptr, .str []]⟩
def ti352 : TI := ⟨.int .u8, 1, false, 1, [.int .u8 0]⟩
def ti353 : TI := ⟨.int .u8, 1, false, 1, [.int .u8 0]⟩
def ti354 : TI := ⟨.func, 1, false, 8, [.nilfunc]⟩
def ti355 : TI := ⟨.int .i32, 1, false, 4, [.int .i32 0]⟩
def ti356 : TI := ⟨.int .i32, 1, false, 4, [.int .i32 0]⟩
def ti358 : TI := ⟨.struct [(0, 1, false), (1, 1, false), (2, 1, false), (3, 1, false), (4, 1, false), (5, 1, false), (6, 1, false), (7, 1, false), (8, 1, false), (9, 1, false), (10, 1, false)], 11, true, 48, [.int .u64 0, .int .u64 0, .int .u32 0, .int .u8 0, .int .u8 0, .int .u8 0, .int .u8 0, .nilfunc, .nilptr, .int .i32 0, .int .i32 0]⟩
def tn191_128 : Tr TI := .node (.node .nil (some ti319) .nil) none .nil
def tn63_64 : Tr TI := .node (.node .nil (some ti127) .nil) none tn191_128
def tn31_32 : Tr TI := .node tn63_64 (some ti31) .nil
def tn207_128 : Tr TI := .node (.node .nil (some ti335) .nil) (some ti207) .nil
def tn79_64 : Tr TI := .node .nil none tn207_128
def tn47_32 : Tr TI := .node tn79_64 none (.node .nil (some ti111) .nil)
def tn15_16 : Tr TI := .node tn31_32 (some ti15) tn47_32
def tn199_128 : Tr TI := .node (.node .nil (some ti327) .nil) none .nil
def tn71_64 : Tr TI := .node (.node .nil (some ti135) .nil) none tn199_128
def tn103_64 : Tr TI := .node (.node .nil (some ti167) .nil) none (.node .nil (some ti231) .nil)
def tn39_32 : Tr TI := .node tn71_64 (some ti39) tn103_64
def tn215_128 : Tr TI := .node (.node .nil (some ti343) .nil) (some ti215) .nil
def tn87_64 : Tr TI := .node (.node .nil (some ti151) .nil) none tn215_128
def tn55_32 : Tr TI := .node tn87_64 none (.node .nil (some ti119) .nil)
def tn23_16 : Tr TI := .node tn39_32 (some ti23) tn55_32
def tn7_8 : Tr TI := .node tn15_16 (some ti7) tn23_16
def tn131_128 : Tr TI := .node (.node .nil (some ti259) .nil) (some ti131) .nil
def tn67_64 : Tr TI := .node tn131_128 none .nil
def tn227_128 : Tr TI := .node (.node .nil (some ti355) .nil) none .nil
def tn99_64 : Tr TI := .node (.node .nil (some ti163) .nil) none tn227_128
def tn35_32 : Tr TI := .node tn67_64 (some ti35) tn99_64
def tn83_64 : Tr TI := .node .nil none (.node .nil (some ti211) .nil)
def tn51_32 : Tr TI := .node tn83_64 none (.node .nil (some ti115) .nil)
def tn19_16 : Tr TI := .node tn35_32 (some ti19) tn51_32
def tn75_64 : Tr TI := .node .nil none (.node .nil (some ti203) .nil)
def tn107_64 : Tr TI := .node .nil none (.node .nil (some ti235) .nil)
def tn43_32 : Tr TI := .node tn75_64 none tn107_64
def tn219_128 : Tr TI := .node (.node .nil (some ti347) .nil) none .nil
def tn91_64 : Tr TI := .node .nil (some ti91) tn219_128
def tn59_32 : Tr TI := .node tn91_64 none (.node .nil (some ti123) .nil)
def tn27_16 : Tr TI := .node tn43_32 (some ti27) tn59_32
def tn11_8 : Tr TI := .node tn19_16 (some ti11) tn27_16
def tn3_4 : Tr TI := .node tn7_8 (some ti3) tn11_8
def tn225_128 : Tr TI := .node (.node .nil (some ti353) .nil) none .nil
def tn97_64 : Tr TI := .node .nil (some ti97) tn225_128
def tn33_32 : Tr TI := .node (.node .nil (some ti65) .nil) (some ti33) tn97_64
def tn209_128 : Tr TI := .node (.node .nil (some ti337) .nil) (some ti209) .nil
def tn81_64 : Tr TI := .node .nil (some ti81) tn209_128
def tn49_32 : Tr TI := .node tn81_64 none .nil
def tn17_16 : Tr TI := .node tn33_32 (some ti17) tn49_32
def tn105_64 : Tr TI := .node .nil none (.node .nil (some ti233) .nil)
def tn41_32 : Tr TI := .node .nil (some ti41) tn105_64
def tn89_64 : Tr TI := .node .nil (some ti89) (.node .nil (some ti217) .nil)
def tn121_64 : Tr TI := .node .nil none (.node .nil (some ti249) .nil)
def tn57_32 : Tr TI := .node tn89_64 none tn121_64
def tn25_16 : Tr TI := .node tn41_32 (some ti25) tn57_32
def tn9_8 : Tr TI := .node tn17_16 (some ti9) tn25_16
def tn197_128 : Tr TI := .node (.node .nil (some ti325) .nil) none .nil
def tn69_64 : Tr TI := .node .nil none tn197_128
def tn101_64 : Tr TI := .node (.node .nil (some ti165) .nil) none .nil
def tn37_32 : Tr TI := .node tn69_64 (some ti37) tn101_64
def tn149_128 : Tr TI := .node (.node .nil (some ti277) .nil) none .nil
def tn85_64 : Tr TI := .node tn149_128 none .nil
def tn53_32 : Tr TI := .node tn85_64 (some ti53) (.node .nil (some ti117) .nil)
def tn21_16 : Tr TI := .node tn37_32 (some ti21) tn53_32
def tn77_64 : Tr TI := .node (.node .nil (some ti141) .nil) (some ti77) .nil
def tn45_32 : Tr TI := .node tn77_64 none (.node .nil (some ti109) .nil)
def tn93_64 : Tr TI := .node (.node .nil (some ti157) .nil) (some ti93) (.node .nil (some ti221) .nil)
def tn189_128 : Tr TI := .node (.node .nil (some ti317) .nil) none .nil
def tn125_64 : Tr TI := .node tn189_128 (some ti125) (.node .nil (some ti253) .nil)
def tn61_32 : Tr TI := .node tn93_64 (some ti61) tn125_64
def tn29_16 : Tr TI := .node tn45_32 (some ti29) tn61_32
def tn13_8 : Tr TI := .node tn21_16 (some ti13) tn29_16
def tn5_4 : Tr TI := .node tn9_8 (some ti5) tn13_8
def tn1_2 : Tr TI := .node tn3_4 (some ti1) tn5_4
def tn64_64 : Tr TI := .node (.node .nil (some ti128) .nil) (some ti64) .nil
def tn224_128 : Tr TI := .node (.node .nil (some ti352) .nil) (some ti224) .nil
def tn96_64 : Tr TI := .node (.node .nil (some ti160) .nil) none tn224_128
def tn32_32 : Tr TI := .node tn64_64 (some ti32) tn96_64
def tn208_128 : Tr TI := .node (.node .nil (some ti336) .nil) (some ti208) .nil
def tn80_64 : Tr TI := .node (.node .nil (some ti144) .nil) none tn208_128
def tn48_32 : Tr TI := .node tn80_64 none .nil
def tn16_16 : Tr TI := .node tn32_32 (some ti16) tn48_32
def tn200_128 : Tr TI := .node (.node .nil (some ti328) .nil) none .nil
def tn72_64 : Tr TI := .node (.node .nil (some ti136) .nil) (some ti72) tn200_128
def tn104_64 : Tr TI := .node (.node .nil (some ti168) .nil) none (.node .nil (some ti232) .nil)
def tn40_32 : Tr TI := .node tn72_64 (some ti40) tn104_64
def tn216_128 : Tr TI := .node (.node .nil (some ti344) .nil) (some ti216) .nil
def tn88_64 : Tr TI := .node .nil none tn216_128
def tn184_128 : Tr TI := .node (.node .nil (some ti312) .nil) none .nil
def tn120_64 : Tr TI := .node tn184_128 none .nil
def tn56_32 : Tr TI := .node tn88_64 none tn120_64
def tn24_16 : Tr TI := .node tn40_32 (some ti24) tn56_32
def tn8_8 : Tr TI := .node tn16_16 (some ti8) tn24_16
def tn68_64 : Tr TI := .node (.node .nil (some ti132) .nil) none .nil
def tn228_128 : Tr TI := .node (.node .nil (some ti356) .nil) none .nil
def tn100_64 : Tr TI := .node (.node .nil (some ti164) .nil) none tn228_128
def tn36_32 : Tr TI := .node tn68_64 none tn100_64
def tn180_128 : Tr TI := .node (.node .nil (some ti308) .nil) none .nil
def tn116_64 : Tr TI := .node tn180_128 none .nil
def tn52_32 : Tr TI := .node .nil none tn116_64
def tn20_16 : Tr TI := .node tn36_32 (some ti20) tn52_32
def tn108_64 : Tr TI := .node (.node .nil (some ti172) .nil) none .nil
def tn44_32 : Tr TI := .node .nil (some ti44) tn108_64
def tn156_128 : Tr TI := .node (.node .nil (some ti284) .nil) (some ti156) .nil
def tn220_128 : Tr TI := .node (.node .nil (some ti348) .nil) (some ti220) .nil
def tn92_64 : Tr TI := .node tn156_128 none tn220_128
def tn124_64 : Tr TI := .node .nil none (.node .nil (some ti252) .nil)
def tn60_32 : Tr TI := .node tn92_64 none tn124_64
def tn28_16 : Tr TI := .node tn44_32 (some ti28) tn60_32
def tn12_8 : Tr TI := .node tn20_16 (some ti12) tn28_16
def tn4_4 : Tr TI := .node tn8_8 (some ti4) tn12_8
def tn226_128 : Tr TI := .node (.node .nil (some ti354) .nil) none .nil
def tn98_64 : Tr TI := .node (.node .nil (some ti162) .nil) none tn226_128
def tn34_32 : Tr TI := .node .nil (some ti34) tn98_64
def tn50_32 : Tr TI := .node .nil none (.node .nil (some ti114) .nil)
def tn18_16 : Tr TI := .node tn34_32 (some ti18) tn50_32
def tn74_64 : Tr TI := .node (.node .nil (some ti138) .nil) (some ti74) (.node .nil (some ti202) .nil)
def tn106_64 : Tr TI := .node (.node .nil (some ti170) .nil) none .nil
def tn42_32 : Tr TI := .node tn74_64 (some ti42) tn106_64
def tn154_128 : Tr TI := .node (.node .nil (some ti282) .nil) none .nil
def tn90_64 : Tr TI := .node tn154_128 (some ti90) (.node .nil (some ti218) .nil)
def tn58_32 : Tr TI := .node tn90_64 (some ti58) .nil
def tn26_16 : Tr TI := .node tn42_32 (some ti26) tn58_32
def tn10_8 : Tr TI := .node tn18_16 (some ti10) tn26_16
def tn198_128 : Tr TI := .node (.node .nil (some ti326) .nil) none .nil
def tn70_64 : Tr TI := .node .nil none tn198_128
def tn230_128 : Tr TI := .node (.node .nil (some ti358) .nil) none .nil
def tn102_64 : Tr TI := .node (.node .nil (some ti166) .nil) none tn230_128
def tn38_32 : Tr TI := .node tn70_64 (some ti38) tn102_64
def tn150_128 : Tr TI := .node (.node .nil (some ti278) .nil) (some ti150) .nil
def tn86_64 : Tr TI := .node tn150_128 (some ti86) (.node .nil (some ti214) .nil)
def tn54_32 : Tr TI := .node tn86_64 none .nil
def tn22_16 : Tr TI := .node tn38_32 (some ti22) tn54_32
def tn206_128 : Tr TI := .node (.node .nil (some ti334) .nil) (some ti206) .nil
def tn78_64 : Tr TI := .node (.node .nil (some ti142) .nil) none tn206_128
def tn46_32 : Tr TI := .node tn78_64 none .nil
def tn94_64 : Tr TI := .node (.node .nil (some ti158) .nil) (some ti94) (.node .nil (some ti222) .nil)
def tn62_32 : Tr TI := .node tn94_64 (some ti62) .nil
def tn30_16 : Tr TI := .node tn46_32 (some ti30) tn62_32
def tn14_8 : Tr TI := .node tn22_16 (some ti14) tn30_16
def tn6_4 : Tr TI := .node tn10_8 (some ti6) tn14_8
def tn2_2 : Tr TI := .node tn4_4 (some ti2) tn6_4
def tn0_1 : Tr TI := .node tn1_2 none tn2_2
def fn127_128 : Tr Func := .node (.node .nil (some Tryz.f255) .nil) (some Tryz.f127) .nil
def fn191_128 : Tr Func := .node (.node .nil (some Tryz.f319) .nil) (some Tryz.f191) .nil
def fn63_64 : Tr Func := .node fn127_128 (some Tryz.f63) fn191_128
def fn95_64 : Tr Func := .node (.node .nil (some Tryz.f159) .nil) none (.node .nil (some Tryz.f223) .nil)
def fn31_32 : Tr Func := .node fn63_64 (some Tryz.f31) fn95_64
def fn143_128 : Tr Func := .node (.node .nil (some Tryz.f271) .nil) none .nil
def fn207_128 : Tr Func := .node (.node .nil (some Tryz.f335) .nil) (some Tryz.f207) .nil
def fn79_64 : Tr Func := .node fn143_128 none fn207_128
def fn175_128 : Tr Func := .node (.node .nil (some Tryz.f303) .nil) none .nil
def fn111_64 : Tr Func := .node fn175_128 none .nil
def fn47_32 : Tr Func := .node fn79_64 (some Tryz.f47) fn111_64
def fn15_16 : Tr Func := .node fn31_32 none fn47_32
def fn135_128 : Tr Func := .node (.node .nil (some Tryz.f263) .nil) (some Tryz.f135) .nil
def fn199_128 : Tr Func := .node (.node .nil (some Tryz.f327) .nil) (some Tryz.f199) .nil
def fn71_64 : Tr Func := .node fn135_128 (some Tryz.f71) fn199_128
def fn103_64 : Tr Func := .node (.node .nil (some Tryz.f167) .nil) none .nil
def fn39_32 : Tr Func := .node fn71_64 none fn103_64
def fn87_64 : Tr Func := .node (.node .nil (some Tryz.f151) .nil) (some Tryz.f87) (.node .nil (some Tryz.f215) .nil)
def fn55_32 : Tr Func := .node fn87_64 none (.node .nil (some Tryz.f119) .nil)
def fn23_16 : Tr Func := .node fn39_32 (some Tryz.f23) fn55_32
def fn7_8 : Tr Func := .node fn15_16 none fn23_16
def fn131_128 : Tr Func := .node (.node .nil (some Tryz.f259) .nil) (some Tryz.f131) .nil
def fn195_128 : Tr Func := .node (.node .nil (some Tryz.f323) .nil) (some Tryz.f195) .nil
def fn67_64 : Tr Func := .node fn131_128 (some Tryz.f67) fn195_128
def fn99_64 : Tr Func := .node (.node .nil (some Tryz.f163) .nil) none .nil
def fn35_32 : Tr Func := .node fn67_64 (some Tryz.f35) fn99_64
def fn147_128 : Tr Func := .node (.node .nil (some Tryz.f275) .nil) (some Tryz.f147) .nil
def fn211_128 : Tr Func := .node (.node .nil (some Tryz.f339) .nil) (some Tryz.f211) .nil
def fn83_64 : Tr Func := .node fn147_128 none fn211_128
def fn179_128 : Tr Func := .node (.node .nil (some Tryz.f307) .nil) none .nil
def fn115_64 : Tr Func := .node fn179_128 none .nil
def fn51_32 : Tr Func := .node fn83_64 (some Tryz.f51) fn115_64
def fn19_16 : Tr Func := .node fn35_32 none fn51_32
def fn139_128 : Tr Func := .node (.node .nil (some Tryz.f267) .nil) (some Tryz.f139) .nil
def fn75_64 : Tr Func := .node fn139_128 (some Tryz.f75) (.node .nil (some Tryz.f203) .nil)
def fn171_128 : Tr Func := .node (.node .nil (some Tryz.f299) .nil) (some Tryz.f171) .nil
def fn107_64 : Tr Func := .node fn171_128 none .nil
def fn43_32 : Tr Func := .node fn75_64 none fn107_64
def fn219_128 : Tr Func := .node (.node .nil (some Tryz.f347) .nil) (some Tryz.f219) .nil
def fn91_64 : Tr Func := .node (.node .nil (some Tryz.f155) .nil) (some Tryz.f91) fn219_128
def fn187_128 : Tr Func := .node (.node .nil (some Tryz.f315) .nil) none .nil
def fn123_64 : Tr Func := .node fn187_128 (some Tryz.f123) (.node .nil (some Tryz.f251) .nil)
def fn59_32 : Tr Func := .node fn91_64 none fn123_64
def fn27_16 : Tr Func := .node fn43_32 (some Tryz.f27) fn59_32
def fn11_8 : Tr Func := .node fn19_16 none fn27_16
def fn3_4 : Tr Func := .node fn7_8 none fn11_8
def fn129_128 : Tr Func := .node (.node .nil (some Tryz.f257) .nil) (some Tryz.f129) .nil
def fn193_128 : Tr Func := .node (.node .nil (some Tryz.f321) .nil) (some Tryz.f193) .nil
def fn65_64 : Tr Func := .node fn129_128 (some Tryz.f65) fn193_128
def fn97_64 : Tr Func := .node (.node .nil (some Tryz.f161) .nil) none (.node .nil (some Tryz.f225) .nil)
def fn33_32 : Tr Func := .node fn65_64 (some Tryz.f33) fn97_64
def fn145_128 : Tr Func := .node (.node .nil (some Tryz.f273) .nil) none .nil
def fn209_128 : Tr Func := .node (.node .nil (some Tryz.f337) .nil) (some Tryz.f209) .nil
def fn81_64 : Tr Func := .node fn145_128 (some Tryz.f81) fn209_128
def fn177_128 : Tr Func := .node (.node .nil (some Tryz.f305) .nil) none .nil
def fn113_64 : Tr Func := .node fn177_128 none .nil
def fn49_32 : Tr Func := .node fn81_64 (some Tryz.f49) fn113_64
def fn17_16 : Tr Func := .node fn33_32 (some Tryz.f17) fn49_32
def fn137_128 : Tr Func := .node (.node .nil (some Tryz.f265) .nil) (some Tryz.f137) .nil
def fn201_128 : Tr Func := .node (.node .nil (some Tryz.f329) .nil) (some Tryz.f201) .nil
def fn73_64 : Tr Func := .node fn137_128 (some Tryz.f73) fn201_128
def fn169_128 : Tr Func := .node (.node .nil (some Tryz.f297) .nil) (some Tryz.f169) .nil
def fn105_64 : Tr Func := .node fn169_128 none .nil
def fn41_32 : Tr Func := .node fn73_64 none fn105_64
def fn153_128 : Tr Func := .node (.node .nil (some Tryz.f281) .nil) (some Tryz.f153) .nil
def fn217_128 : Tr Func := .node (.node .nil (some Tryz.f345) .nil) none .nil
def fn89_64 : Tr Func := .node fn153_128 (some Tryz.f89) fn217_128
def fn121_64 : Tr Func := .node .nil (some Tryz.f121) (.node .nil (some Tryz.f249) .nil)
def fn57_32 : Tr Func := .node fn89_64 none fn121_64
def fn25_16 : Tr Func := .node fn41_32 (some Tryz.f25) fn57_32
def fn9_8 : Tr Func := .node fn17_16 (some Tryz.f9) fn25_16
def fn133_128 : Tr Func := .node (.node .nil (some Tryz.f261) .nil) (some Tryz.f133) .nil
def fn197_128 : Tr Func := .node (.node .nil (some Tryz.f325) .nil) (some Tryz.f197) .nil
def fn69_64 : Tr Func := .node fn133_128 (some Tryz.f69) fn197_128
def fn101_64 : Tr Func := .node (.node .nil (some Tryz.f165) .nil) none .nil
def fn37_32 : Tr Func := .node fn69_64 none fn101_64
def fn85_64 : Tr Func := .node (.node .nil (some Tryz.f149) .nil) (some Tryz.f85) (.node .nil (some Tryz.f213) .nil)
def fn181_128 : Tr Func := .node (.node .nil (some Tryz.f309) .nil) none .nil
def fn117_64 : Tr Func := .node fn181_128 none .nil
def fn53_32 : Tr Func := .node fn85_64 none fn117_64
def fn21_16 : Tr Func := .node fn37_32 none fn53_32
def fn141_128 : Tr Func := .node (.node .nil (some Tryz.f269) .nil) (some Tryz.f141) .nil
def fn205_128 : Tr Func := .node (.node .nil (some Tryz.f333) .nil) (some Tryz.f205) .nil
def fn77_64 : Tr Func := .node fn141_128 (some Tryz.f77) fn205_128
def fn173_128 : Tr Func := .node (.node .nil (some Tryz.f301) .nil) none .nil
def fn109_64 : Tr Func := .node fn173_128 none .nil
def fn45_32 : Tr Func := .node fn77_64 (some Tryz.f45) fn109_64
def fn221_128 : Tr Func := .node (.node .nil (some Tryz.f349) .nil) (some Tryz.f221) .nil
def fn93_64 : Tr Func := .node (.node .nil (some Tryz.f157) .nil) none fn221_128
def fn189_128 : Tr Func := .node (.node .nil (some Tryz.f317) .nil) (some Tryz.f189) .nil
def fn125_64 : Tr Func := .node fn189_128 (some Tryz.f125) (.node .nil (some Tryz.f253) .nil)
def fn61_32 : Tr Func := .node fn93_64 none fn125_64
def fn29_16 : Tr Func := .node fn45_32 (some Tryz.f29) fn61_32
def fn13_8 : Tr Func := .node fn21_16 none fn29_16
def fn5_4 : Tr Func := .node fn9_8 (some Tryz.f5) fn13_8
def fn1_2 : Tr Func := .node fn3_4 none fn5_4
def fn128_128 : Tr Func := .node (.node .nil (some Tryz.f256) .nil) (some Tryz.f128) .nil
def fn192_128 : Tr Func := .node (.node .nil (some Tryz.f320) .nil) (some Tryz.f192) .nil
def fn64_64 : Tr Func := .node fn128_128 (some Tryz.f64) fn192_128
def fn96_64 : Tr Func := .node (.node .nil (some Tryz.f160) .nil) none (.node .nil (some Tryz.f224) .nil)
def fn32_32 : Tr Func := .node fn64_64 (some Tryz.f32) fn96_64
def fn144_128 : Tr Func := .node (.node .nil (some Tryz.f272) .nil) none .nil
def fn208_128 : Tr Func := .node (.node .nil (some Tryz.f336) .nil) (some Tryz.f208) .nil
def fn80_64 : Tr Func := .node fn144_128 none fn208_128
def fn176_128 : Tr Func := .node (.node .nil (some Tryz.f304) .nil) none .nil
def fn112_64 : Tr Func := .node fn176_128 none .nil
def fn48_32 : Tr Func := .node fn80_64 (some Tryz.f48) fn112_64
def fn16_16 : Tr Func := .node fn32_32 none fn48_32
def fn136_128 : Tr Func := .node (.node .nil (some Tryz.f264) .nil) (some Tryz.f136) .nil
def fn200_128 : Tr Func := .node (.node .nil (some Tryz.f328) .nil) (some Tryz.f200) .nil
def fn72_64 : Tr Func := .node fn136_128 (some Tryz.f72) fn200_128
def fn104_64 : Tr Func := .node (.node .nil (some Tryz.f168) .nil) none .nil
def fn40_32 : Tr Func := .node fn72_64 none fn104_64
def fn216_128 : Tr Func := .node (.node .nil (some Tryz.f344) .nil) (some Tryz.f216) .nil
def fn88_64 : Tr Func := .node (.node .nil (some Tryz.f152) .nil) (some Tryz.f88) fn216_128
def fn56_32 : Tr Func := .node fn88_64 none (.node .nil (some Tryz.f120) .nil)
def fn24_16 : Tr Func := .node fn40_32 (some Tryz.f24) fn56_32
def fn8_8 : Tr Func := .node fn16_16 none fn24_16
def fn132_128 : Tr Func := .node (.node .nil (some Tryz.f260) .nil) (some Tryz.f132) .nil
def fn196_128 : Tr Func := .node (.node .nil (some Tryz.f324) .nil) (some Tryz.f196) .nil
def fn68_64 : Tr Func := .node fn132_128 (some Tryz.f68) fn196_128
def fn100_64 : Tr Func := .node (.node .nil (some Tryz.f164) .nil) none .nil
def fn36_32 : Tr Func := .node fn68_64 none fn100_64
def fn148_128 : Tr Func := .node (.node .nil (some Tryz.f276) .nil) (some Tryz.f148) .nil
def fn212_128 : Tr Func := .node (.node .nil (some Tryz.f340) .nil) (some Tryz.f212) .nil
def fn84_64 : Tr Func := .node fn148_128 (some Tryz.f84) fn212_128
def fn180_128 : Tr Func := .node (.node .nil (some Tryz.f308) .nil) none .nil
def fn116_64 : Tr Func := .node fn180_128 none .nil
def fn52_32 : Tr Func := .node fn84_64 none fn116_64
def fn20_16 : Tr Func := .node fn36_32 none fn52_32
def fn140_128 : Tr Func := .node (.node .nil (some Tryz.f268) .nil) (some Tryz.f140) .nil
def fn204_128 : Tr Func := .node (.node .nil (some Tryz.f332) .nil) (some Tryz.f204) .nil
def fn76_64 : Tr Func := .node fn140_128 (some Tryz.f76) fn204_128
def fn172_128 : Tr Func := .node (.node .nil (some Tryz.f300) .nil) none .nil
def fn108_64 : Tr Func := .node fn172_128 none .nil
def fn44_32 : Tr Func := .node fn76_64 (some Tryz.f44) fn108_64
def fn220_128 : Tr Func := .node (.node .nil (some Tryz.f348) .nil) (some Tryz.f220) .nil
def fn92_64 : Tr Func := .node (.node .nil (some Tryz.f156) .nil) (some Tryz.f92) fn220_128
def fn188_128 : Tr Func := .node (.node .nil (some Tryz.f316) .nil) (some Tryz.f188) .nil
def fn124_64 : Tr Func := .node fn188_128 (some Tryz.f124) (.node .nil (some Tryz.f252) .nil)
def fn60_32 : Tr Func := .node fn92_64 none fn124_64
def fn28_16 : Tr Func := .node fn44_32 (some Tryz.f28) fn60_32
def fn12_8 : Tr Func := .node fn20_16 none fn28_16
def fn4_4 : Tr Func := .node fn8_8 none fn12_8
def fn130_128 : Tr Func := .node (.node .nil (some Tryz.f258) .nil) (some Tryz.f130) .nil
def fn194_128 : Tr Func := .node (.node .nil (some Tryz.f322) .nil) (some Tryz.f194) .nil
def fn66_64 : Tr Func := .node fn130_128 (some Tryz.f66) fn194_128
def fn98_64 : Tr Func := .node (.node .nil (some Tryz.f162) .nil) none (.node .nil (some Tryz.f226) .nil)
def fn34_32 : Tr Func := .node fn66_64 (some Tryz.f34) fn98_64
def fn146_128 : Tr Func := .node (.node .nil (some Tryz.f274) .nil) none .nil
def fn210_128 : Tr Func := .node (.node .nil (some Tryz.f338) .nil) (some Tryz.f210) .nil
def fn82_64 : Tr Func := .node fn146_128 (some Tryz.f82) fn210_128
def fn178_128 : Tr Func := .node (.node .nil (some Tryz.f306) .nil) none .nil
def fn114_64 : Tr Func := .node fn178_128 none .nil
def fn50_32 : Tr Func := .node fn82_64 (some Tryz.f50) fn114_64
def fn18_16 : Tr Func := .node fn34_32 none fn50_32
def fn74_64 : Tr Func := .node (.node .nil (some Tryz.f138) .nil) (some Tryz.f74) (.node .nil (some Tryz.f202) .nil)
def fn170_128 : Tr Func := .node (.node .nil (some Tryz.f298) .nil) (some Tryz.f170) .nil
def fn106_64 : Tr Func := .node fn170_128 none .nil
def fn42_32 : Tr Func := .node fn74_64 none fn106_64
def fn218_128 : Tr Func := .node (.node .nil (some Tryz.f346) .nil) none .nil
def fn90_64 : Tr Func := .node (.node .nil (some Tryz.f154) .nil) (some Tryz.f90) fn218_128
def fn122_64 : Tr Func := .node .nil (some Tryz.f122) (.node .nil (some Tryz.f250) .nil)
def fn58_32 : Tr Func := .node fn90_64 none fn122_64
def fn26_16 : Tr Func := .node fn42_32 (some Tryz.f26) fn58_32
def fn10_8 : Tr Func := .node fn18_16 none fn26_16
def fn134_128 : Tr Func := .node (.node .nil (some Tryz.f262) .nil) (some Tryz.f134) .nil
def fn198_128 : Tr Func := .node (.node .nil (some Tryz.f326) .nil) (some Tryz.f198) .nil
def fn70_64 : Tr Func := .node fn134_128 (some Tryz.f70) fn198_128
def fn102_64 : Tr Func := .node (.node .nil (some Tryz.f166) .nil) none .nil
def fn38_32 : Tr Func := .node fn70_64 (some Tryz.f38) fn102_64
def fn86_64 : Tr Func := .node (.node .nil (some Tryz.f150) .nil) (some Tryz.f86) (.node .nil (some Tryz.f214) .nil)
def fn54_32 : Tr Func := .node fn86_64 none .nil
def fn22_16 : Tr Func := .node fn38_32 (some Tryz.f22) fn54_32
def fn142_128 : Tr Func := .node (.node .nil (some Tryz.f270) .nil) (some Tryz.f142) .nil
def fn206_128 : Tr Func := .node (.node .nil (some Tryz.f334) .nil) (some Tryz.f206) .nil
def fn78_64 : Tr Func := .node fn142_128 (some Tryz.f78) fn206_128
def fn174_128 : Tr Func := .node (.node .nil (some Tryz.f302) .nil) none .nil
def fn110_64 : Tr Func := .node fn174_128 none .nil
def fn46_32 : Tr Func := .node fn78_64 (some Tryz.f46) fn110_64
def fn222_128 : Tr Func := .node (.node .nil (some Tryz.f350) .nil) (some Tryz.f222) .nil
def fn94_64 : Tr Func := .node (.node .nil (some Tryz.f158) .nil) none fn222_128
def fn190_128 : Tr Func := .node (.node .nil (some Tryz.f318) .nil) (some Tryz.f190) .nil
def fn126_64 : Tr Func := .node fn190_128 (some Tryz.f126) (.node .nil (some Tryz.f254) .nil)
def fn62_32 : Tr Func := .node fn94_64 (some Tryz.f62) fn126_64
def fn30_16 : Tr Func := .node fn46_32 (some Tryz.f30) fn62_32
def fn14_8 : Tr Func := .node fn22_16 (some Tryz.f14) fn30_16
def fn6_4 : Tr Func := .node fn10_8 none fn14_8
def fn2_2 : Tr Func := .node fn4_4 none fn6_4
def fn0_1 : Tr Func := .node fn1_2 none fn2_2
def annT : Tr FAnn := an0_1
def typeT : Tr TI := tn0_1
def funcT : Tr Func := fn0_1
def annOf (f : FuncId) : FAnn := match annT.get f with
  | some a => a
  | none => {}
def eqT (t : TypeId) : Option (List TK) := cond (Nat.beq t 35) (some [.int .i64, .int .i64, .int .i64]) none
def ctx : Ctx := { P := Tryz.prog, T := typeT.get, A := annOf, G := fun _ => none, E := eqT }
def extOf (f : FuncId) (xs : List AV) : Option AV := cond (Nat.beq f 266) (match xs with | [x] => some x | _ => none) none
def dfrA : Code := match Tryz.f62.body with
  | some (.seq a _) => a
  | _ => .skip
def dfrB : Code := match Tryz.f62.body with
  | some (.seq _ (.seq _ b)) => b
  | _ => .skip
def dfrOf (f : FuncId) : Option (Code × Code × Nat × FuncId × Array Operand) := cond (Nat.beq f 62) (some (dfrA, dfrB, 5, 119, #[.tmp 2, .tmp 3])) none
def kit (kn : FuncId → List AV → Option AV) : Kit := { C := ctx, fn := funcT.get, ext := extOf, known := kn, dfr := dfrOf }
end
end Go.Dv.K
