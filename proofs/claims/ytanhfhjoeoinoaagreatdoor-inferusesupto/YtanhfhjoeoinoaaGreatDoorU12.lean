/- A part of the proof of InferUses, second form: for every input of bulk at most 1048576 the call returns true and the arguments read as they did. Its condition: that bulk. -/
import Derived.Test.YtanhfhjoeoinoaaGreatDoorU11
import Derived.Test.YtanhfhjoeoinoaaGreatDoorU08
import Derived.KernelRfl
/- The tables are right. Written by program (mkkit.py). -/
namespace Go.Dv.K
open Go.Proofs
def QF (i : Nat) (f : Func) : Prop := Tryz.prog.funcs[i]? = some f
def QT (t : Nat) (ti : TI) : Prop := tiOf Tryz.prog t = some ti
theorem lf {A : Type} {Q : Nat → A → Prop} {i : Nat} {a : A} (h : Q i a) : ∀ x, some a = some x → Q i x := fun _ e => Option.some.inj e ▸ h
theorem nf {A : Type} {Q : Nat → A → Prop} {i : Nat} : ∀ x, (none : Option A) = some x → Q i x := fun _ e => nomatch e
theorem pfn127_128 : Tr.AllP QF 127 128 fn127_128 := ⟨lf Tryz.func127, ⟨lf Tryz.func255, trivial, trivial⟩, trivial⟩
theorem pfn191_128 : Tr.AllP QF 191 128 fn191_128 := ⟨lf Tryz.func191, ⟨lf Tryz.func319, trivial, trivial⟩, trivial⟩
theorem pfn63_64 : Tr.AllP QF 63 64 fn63_64 := ⟨lf Tryz.func63, pfn127_128, pfn191_128⟩
theorem pfn95_64 : Tr.AllP QF 95 64 fn95_64 := ⟨nf, ⟨lf Tryz.func159, trivial, trivial⟩, ⟨lf Tryz.func223, trivial, trivial⟩⟩
theorem pfn31_32 : Tr.AllP QF 31 32 fn31_32 := ⟨lf Tryz.func31, pfn63_64, pfn95_64⟩
theorem pfn143_128 : Tr.AllP QF 143 128 fn143_128 := ⟨nf, ⟨lf Tryz.func271, trivial, trivial⟩, trivial⟩
theorem pfn207_128 : Tr.AllP QF 207 128 fn207_128 := ⟨lf Tryz.func207, ⟨lf Tryz.func335, trivial, trivial⟩, trivial⟩
theorem pfn79_64 : Tr.AllP QF 79 64 fn79_64 := ⟨nf, pfn143_128, pfn207_128⟩
theorem pfn175_128 : Tr.AllP QF 175 128 fn175_128 := ⟨nf, ⟨lf Tryz.func303, trivial, trivial⟩, trivial⟩
theorem pfn111_64 : Tr.AllP QF 111 64 fn111_64 := ⟨nf, pfn175_128, trivial⟩
theorem pfn47_32 : Tr.AllP QF 47 32 fn47_32 := ⟨lf Tryz.func47, pfn79_64, pfn111_64⟩
theorem pfn15_16 : Tr.AllP QF 15 16 fn15_16 := ⟨nf, pfn31_32, pfn47_32⟩
theorem pfn135_128 : Tr.AllP QF 135 128 fn135_128 := ⟨lf Tryz.func135, ⟨lf Tryz.func263, trivial, trivial⟩, trivial⟩
theorem pfn199_128 : Tr.AllP QF 199 128 fn199_128 := ⟨lf Tryz.func199, ⟨lf Tryz.func327, trivial, trivial⟩, trivial⟩
theorem pfn71_64 : Tr.AllP QF 71 64 fn71_64 := ⟨lf Tryz.func71, pfn135_128, pfn199_128⟩
theorem pfn103_64 : Tr.AllP QF 103 64 fn103_64 := ⟨nf, ⟨lf Tryz.func167, trivial, trivial⟩, trivial⟩
theorem pfn39_32 : Tr.AllP QF 39 32 fn39_32 := ⟨nf, pfn71_64, pfn103_64⟩
theorem pfn87_64 : Tr.AllP QF 87 64 fn87_64 := ⟨lf Tryz.func87, ⟨lf Tryz.func151, trivial, trivial⟩, ⟨lf Tryz.func215, trivial, trivial⟩⟩
theorem pfn55_32 : Tr.AllP QF 55 32 fn55_32 := ⟨nf, pfn87_64, ⟨lf Tryz.func119, trivial, trivial⟩⟩
theorem pfn23_16 : Tr.AllP QF 23 16 fn23_16 := ⟨lf Tryz.func23, pfn39_32, pfn55_32⟩
theorem pfn7_8 : Tr.AllP QF 7 8 fn7_8 := ⟨nf, pfn15_16, pfn23_16⟩
theorem pfn131_128 : Tr.AllP QF 131 128 fn131_128 := ⟨lf Tryz.func131, ⟨lf Tryz.func259, trivial, trivial⟩, trivial⟩
theorem pfn195_128 : Tr.AllP QF 195 128 fn195_128 := ⟨lf Tryz.func195, ⟨lf Tryz.func323, trivial, trivial⟩, trivial⟩
theorem pfn67_64 : Tr.AllP QF 67 64 fn67_64 := ⟨lf Tryz.func67, pfn131_128, pfn195_128⟩
theorem pfn99_64 : Tr.AllP QF 99 64 fn99_64 := ⟨nf, ⟨lf Tryz.func163, trivial, trivial⟩, trivial⟩
theorem pfn35_32 : Tr.AllP QF 35 32 fn35_32 := ⟨lf Tryz.func35, pfn67_64, pfn99_64⟩
theorem pfn147_128 : Tr.AllP QF 147 128 fn147_128 := ⟨lf Tryz.func147, ⟨lf Tryz.func275, trivial, trivial⟩, trivial⟩
theorem pfn211_128 : Tr.AllP QF 211 128 fn211_128 := ⟨lf Tryz.func211, ⟨lf Tryz.func339, trivial, trivial⟩, trivial⟩
theorem pfn83_64 : Tr.AllP QF 83 64 fn83_64 := ⟨nf, pfn147_128, pfn211_128⟩
theorem pfn179_128 : Tr.AllP QF 179 128 fn179_128 := ⟨nf, ⟨lf Tryz.func307, trivial, trivial⟩, trivial⟩
theorem pfn115_64 : Tr.AllP QF 115 64 fn115_64 := ⟨nf, pfn179_128, trivial⟩
theorem pfn51_32 : Tr.AllP QF 51 32 fn51_32 := ⟨lf Tryz.func51, pfn83_64, pfn115_64⟩
theorem pfn19_16 : Tr.AllP QF 19 16 fn19_16 := ⟨nf, pfn35_32, pfn51_32⟩
theorem pfn139_128 : Tr.AllP QF 139 128 fn139_128 := ⟨lf Tryz.func139, ⟨lf Tryz.func267, trivial, trivial⟩, trivial⟩
theorem pfn75_64 : Tr.AllP QF 75 64 fn75_64 := ⟨lf Tryz.func75, pfn139_128, ⟨lf Tryz.func203, trivial, trivial⟩⟩
theorem pfn171_128 : Tr.AllP QF 171 128 fn171_128 := ⟨lf Tryz.func171, ⟨lf Tryz.func299, trivial, trivial⟩, trivial⟩
theorem pfn107_64 : Tr.AllP QF 107 64 fn107_64 := ⟨nf, pfn171_128, trivial⟩
theorem pfn43_32 : Tr.AllP QF 43 32 fn43_32 := ⟨nf, pfn75_64, pfn107_64⟩
theorem pfn219_128 : Tr.AllP QF 219 128 fn219_128 := ⟨lf Tryz.func219, ⟨lf Tryz.func347, trivial, trivial⟩, trivial⟩
theorem pfn91_64 : Tr.AllP QF 91 64 fn91_64 := ⟨lf Tryz.func91, ⟨lf Tryz.func155, trivial, trivial⟩, pfn219_128⟩
theorem pfn187_128 : Tr.AllP QF 187 128 fn187_128 := ⟨nf, ⟨lf Tryz.func315, trivial, trivial⟩, trivial⟩
theorem pfn123_64 : Tr.AllP QF 123 64 fn123_64 := ⟨lf Tryz.func123, pfn187_128, ⟨lf Tryz.func251, trivial, trivial⟩⟩
theorem pfn59_32 : Tr.AllP QF 59 32 fn59_32 := ⟨nf, pfn91_64, pfn123_64⟩
theorem pfn27_16 : Tr.AllP QF 27 16 fn27_16 := ⟨lf Tryz.func27, pfn43_32, pfn59_32⟩
theorem pfn11_8 : Tr.AllP QF 11 8 fn11_8 := ⟨nf, pfn19_16, pfn27_16⟩
theorem pfn3_4 : Tr.AllP QF 3 4 fn3_4 := ⟨nf, pfn7_8, pfn11_8⟩
theorem pfn129_128 : Tr.AllP QF 129 128 fn129_128 := ⟨lf Tryz.func129, ⟨lf Tryz.func257, trivial, trivial⟩, trivial⟩
theorem pfn193_128 : Tr.AllP QF 193 128 fn193_128 := ⟨lf Tryz.func193, ⟨lf Tryz.func321, trivial, trivial⟩, trivial⟩
theorem pfn65_64 : Tr.AllP QF 65 64 fn65_64 := ⟨lf Tryz.func65, pfn129_128, pfn193_128⟩
theorem pfn97_64 : Tr.AllP QF 97 64 fn97_64 := ⟨nf, ⟨lf Tryz.func161, trivial, trivial⟩, ⟨lf Tryz.func225, trivial, trivial⟩⟩
theorem pfn33_32 : Tr.AllP QF 33 32 fn33_32 := ⟨lf Tryz.func33, pfn65_64, pfn97_64⟩
theorem pfn145_128 : Tr.AllP QF 145 128 fn145_128 := ⟨nf, ⟨lf Tryz.func273, trivial, trivial⟩, trivial⟩
theorem pfn209_128 : Tr.AllP QF 209 128 fn209_128 := ⟨lf Tryz.func209, ⟨lf Tryz.func337, trivial, trivial⟩, trivial⟩
theorem pfn81_64 : Tr.AllP QF 81 64 fn81_64 := ⟨lf Tryz.func81, pfn145_128, pfn209_128⟩
theorem pfn177_128 : Tr.AllP QF 177 128 fn177_128 := ⟨nf, ⟨lf Tryz.func305, trivial, trivial⟩, trivial⟩
theorem pfn113_64 : Tr.AllP QF 113 64 fn113_64 := ⟨nf, pfn177_128, trivial⟩
theorem pfn49_32 : Tr.AllP QF 49 32 fn49_32 := ⟨lf Tryz.func49, pfn81_64, pfn113_64⟩
theorem pfn17_16 : Tr.AllP QF 17 16 fn17_16 := ⟨lf Tryz.func17, pfn33_32, pfn49_32⟩
theorem pfn137_128 : Tr.AllP QF 137 128 fn137_128 := ⟨lf Tryz.func137, ⟨lf Tryz.func265, trivial, trivial⟩, trivial⟩
theorem pfn201_128 : Tr.AllP QF 201 128 fn201_128 := ⟨lf Tryz.func201, ⟨lf Tryz.func329, trivial, trivial⟩, trivial⟩
theorem pfn73_64 : Tr.AllP QF 73 64 fn73_64 := ⟨lf Tryz.func73, pfn137_128, pfn201_128⟩
theorem pfn169_128 : Tr.AllP QF 169 128 fn169_128 := ⟨lf Tryz.func169, ⟨lf Tryz.func297, trivial, trivial⟩, trivial⟩
theorem pfn105_64 : Tr.AllP QF 105 64 fn105_64 := ⟨nf, pfn169_128, trivial⟩
theorem pfn41_32 : Tr.AllP QF 41 32 fn41_32 := ⟨nf, pfn73_64, pfn105_64⟩
theorem pfn153_128 : Tr.AllP QF 153 128 fn153_128 := ⟨lf Tryz.func153, ⟨lf Tryz.func281, trivial, trivial⟩, trivial⟩
theorem pfn217_128 : Tr.AllP QF 217 128 fn217_128 := ⟨nf, ⟨lf Tryz.func345, trivial, trivial⟩, trivial⟩
theorem pfn89_64 : Tr.AllP QF 89 64 fn89_64 := ⟨lf Tryz.func89, pfn153_128, pfn217_128⟩
theorem pfn121_64 : Tr.AllP QF 121 64 fn121_64 := ⟨lf Tryz.func121, trivial, ⟨lf Tryz.func249, trivial, trivial⟩⟩
theorem pfn57_32 : Tr.AllP QF 57 32 fn57_32 := ⟨nf, pfn89_64, pfn121_64⟩
theorem pfn25_16 : Tr.AllP QF 25 16 fn25_16 := ⟨lf Tryz.func25, pfn41_32, pfn57_32⟩
theorem pfn9_8 : Tr.AllP QF 9 8 fn9_8 := ⟨lf Tryz.func9, pfn17_16, pfn25_16⟩
theorem pfn133_128 : Tr.AllP QF 133 128 fn133_128 := ⟨lf Tryz.func133, ⟨lf Tryz.func261, trivial, trivial⟩, trivial⟩
theorem pfn197_128 : Tr.AllP QF 197 128 fn197_128 := ⟨lf Tryz.func197, ⟨lf Tryz.func325, trivial, trivial⟩, trivial⟩
theorem pfn69_64 : Tr.AllP QF 69 64 fn69_64 := ⟨lf Tryz.func69, pfn133_128, pfn197_128⟩
theorem pfn101_64 : Tr.AllP QF 101 64 fn101_64 := ⟨nf, ⟨lf Tryz.func165, trivial, trivial⟩, trivial⟩
theorem pfn37_32 : Tr.AllP QF 37 32 fn37_32 := ⟨nf, pfn69_64, pfn101_64⟩
theorem pfn85_64 : Tr.AllP QF 85 64 fn85_64 := ⟨lf Tryz.func85, ⟨lf Tryz.func149, trivial, trivial⟩, ⟨lf Tryz.func213, trivial, trivial⟩⟩
theorem pfn181_128 : Tr.AllP QF 181 128 fn181_128 := ⟨nf, ⟨lf Tryz.func309, trivial, trivial⟩, trivial⟩
theorem pfn117_64 : Tr.AllP QF 117 64 fn117_64 := ⟨nf, pfn181_128, trivial⟩
theorem pfn53_32 : Tr.AllP QF 53 32 fn53_32 := ⟨nf, pfn85_64, pfn117_64⟩
theorem pfn21_16 : Tr.AllP QF 21 16 fn21_16 := ⟨nf, pfn37_32, pfn53_32⟩
theorem pfn141_128 : Tr.AllP QF 141 128 fn141_128 := ⟨lf Tryz.func141, ⟨lf Tryz.func269, trivial, trivial⟩, trivial⟩
theorem pfn205_128 : Tr.AllP QF 205 128 fn205_128 := ⟨lf Tryz.func205, ⟨lf Tryz.func333, trivial, trivial⟩, trivial⟩
theorem pfn77_64 : Tr.AllP QF 77 64 fn77_64 := ⟨lf Tryz.func77, pfn141_128, pfn205_128⟩
theorem pfn173_128 : Tr.AllP QF 173 128 fn173_128 := ⟨nf, ⟨lf Tryz.func301, trivial, trivial⟩, trivial⟩
theorem pfn109_64 : Tr.AllP QF 109 64 fn109_64 := ⟨nf, pfn173_128, trivial⟩
theorem pfn45_32 : Tr.AllP QF 45 32 fn45_32 := ⟨lf Tryz.func45, pfn77_64, pfn109_64⟩
theorem pfn221_128 : Tr.AllP QF 221 128 fn221_128 := ⟨lf Tryz.func221, ⟨lf Tryz.func349, trivial, trivial⟩, trivial⟩
theorem pfn93_64 : Tr.AllP QF 93 64 fn93_64 := ⟨nf, ⟨lf Tryz.func157, trivial, trivial⟩, pfn221_128⟩
theorem pfn189_128 : Tr.AllP QF 189 128 fn189_128 := ⟨lf Tryz.func189, ⟨lf Tryz.func317, trivial, trivial⟩, trivial⟩
theorem pfn125_64 : Tr.AllP QF 125 64 fn125_64 := ⟨lf Tryz.func125, pfn189_128, ⟨lf Tryz.func253, trivial, trivial⟩⟩
theorem pfn61_32 : Tr.AllP QF 61 32 fn61_32 := ⟨nf, pfn93_64, pfn125_64⟩
theorem pfn29_16 : Tr.AllP QF 29 16 fn29_16 := ⟨lf Tryz.func29, pfn45_32, pfn61_32⟩
theorem pfn13_8 : Tr.AllP QF 13 8 fn13_8 := ⟨nf, pfn21_16, pfn29_16⟩
theorem pfn5_4 : Tr.AllP QF 5 4 fn5_4 := ⟨lf Tryz.func5, pfn9_8, pfn13_8⟩
theorem pfn1_2 : Tr.AllP QF 1 2 fn1_2 := ⟨nf, pfn3_4, pfn5_4⟩
theorem pfn128_128 : Tr.AllP QF 128 128 fn128_128 := ⟨lf Tryz.func128, ⟨lf Tryz.func256, trivial, trivial⟩, trivial⟩
theorem pfn192_128 : Tr.AllP QF 192 128 fn192_128 := ⟨lf Tryz.func192, ⟨lf Tryz.func320, trivial, trivial⟩, trivial⟩
theorem pfn64_64 : Tr.AllP QF 64 64 fn64_64 := ⟨lf Tryz.func64, pfn128_128, pfn192_128⟩
theorem pfn96_64 : Tr.AllP QF 96 64 fn96_64 := ⟨nf, ⟨lf Tryz.func160, trivial, trivial⟩, ⟨lf Tryz.func224, trivial, trivial⟩⟩
theorem pfn32_32 : Tr.AllP QF 32 32 fn32_32 := ⟨lf Tryz.func32, pfn64_64, pfn96_64⟩
theorem pfn144_128 : Tr.AllP QF 144 128 fn144_128 := ⟨nf, ⟨lf Tryz.func272, trivial, trivial⟩, trivial⟩
theorem pfn208_128 : Tr.AllP QF 208 128 fn208_128 := ⟨lf Tryz.func208, ⟨lf Tryz.func336, trivial, trivial⟩, trivial⟩
theorem pfn80_64 : Tr.AllP QF 80 64 fn80_64 := ⟨nf, pfn144_128, pfn208_128⟩
theorem pfn176_128 : Tr.AllP QF 176 128 fn176_128 := ⟨nf, ⟨lf Tryz.func304, trivial, trivial⟩, trivial⟩
theorem pfn112_64 : Tr.AllP QF 112 64 fn112_64 := ⟨nf, pfn176_128, trivial⟩
theorem pfn48_32 : Tr.AllP QF 48 32 fn48_32 := ⟨lf Tryz.func48, pfn80_64, pfn112_64⟩
theorem pfn16_16 : Tr.AllP QF 16 16 fn16_16 := ⟨nf, pfn32_32, pfn48_32⟩
theorem pfn136_128 : Tr.AllP QF 136 128 fn136_128 := ⟨lf Tryz.func136, ⟨lf Tryz.func264, trivial, trivial⟩, trivial⟩
theorem pfn200_128 : Tr.AllP QF 200 128 fn200_128 := ⟨lf Tryz.func200, ⟨lf Tryz.func328, trivial, trivial⟩, trivial⟩
theorem pfn72_64 : Tr.AllP QF 72 64 fn72_64 := ⟨lf Tryz.func72, pfn136_128, pfn200_128⟩
theorem pfn104_64 : Tr.AllP QF 104 64 fn104_64 := ⟨nf, ⟨lf Tryz.func168, trivial, trivial⟩, trivial⟩
theorem pfn40_32 : Tr.AllP QF 40 32 fn40_32 := ⟨nf, pfn72_64, pfn104_64⟩
theorem pfn216_128 : Tr.AllP QF 216 128 fn216_128 := ⟨lf Tryz.func216, ⟨lf Tryz.func344, trivial, trivial⟩, trivial⟩
theorem pfn88_64 : Tr.AllP QF 88 64 fn88_64 := ⟨lf Tryz.func88, ⟨lf Tryz.func152, trivial, trivial⟩, pfn216_128⟩
theorem pfn56_32 : Tr.AllP QF 56 32 fn56_32 := ⟨nf, pfn88_64, ⟨lf Tryz.func120, trivial, trivial⟩⟩
theorem pfn24_16 : Tr.AllP QF 24 16 fn24_16 := ⟨lf Tryz.func24, pfn40_32, pfn56_32⟩
theorem pfn8_8 : Tr.AllP QF 8 8 fn8_8 := ⟨nf, pfn16_16, pfn24_16⟩
theorem pfn132_128 : Tr.AllP QF 132 128 fn132_128 := ⟨lf Tryz.func132, ⟨lf Tryz.func260, trivial, trivial⟩, trivial⟩
theorem pfn196_128 : Tr.AllP QF 196 128 fn196_128 := ⟨lf Tryz.func196, ⟨lf Tryz.func324, trivial, trivial⟩, trivial⟩
theorem pfn68_64 : Tr.AllP QF 68 64 fn68_64 := ⟨lf Tryz.func68, pfn132_128, pfn196_128⟩
theorem pfn100_64 : Tr.AllP QF 100 64 fn100_64 := ⟨nf, ⟨lf Tryz.func164, trivial, trivial⟩, trivial⟩
theorem pfn36_32 : Tr.AllP QF 36 32 fn36_32 := ⟨nf, pfn68_64, pfn100_64⟩
theorem pfn148_128 : Tr.AllP QF 148 128 fn148_128 := ⟨lf Tryz.func148, ⟨lf Tryz.func276, trivial, trivial⟩, trivial⟩
theorem pfn212_128 : Tr.AllP QF 212 128 fn212_128 := ⟨lf Tryz.func212, ⟨lf Tryz.func340, trivial, trivial⟩, trivial⟩
theorem pfn84_64 : Tr.AllP QF 84 64 fn84_64 := ⟨lf Tryz.func84, pfn148_128, pfn212_128⟩
theorem pfn180_128 : Tr.AllP QF 180 128 fn180_128 := ⟨nf, ⟨lf Tryz.func308, trivial, trivial⟩, trivial⟩
theorem pfn116_64 : Tr.AllP QF 116 64 fn116_64 := ⟨nf, pfn180_128, trivial⟩
theorem pfn52_32 : Tr.AllP QF 52 32 fn52_32 := ⟨nf, pfn84_64, pfn116_64⟩
theorem pfn20_16 : Tr.AllP QF 20 16 fn20_16 := ⟨nf, pfn36_32, pfn52_32⟩
theorem pfn140_128 : Tr.AllP QF 140 128 fn140_128 := ⟨lf Tryz.func140, ⟨lf Tryz.func268, trivial, trivial⟩, trivial⟩
theorem pfn204_128 : Tr.AllP QF 204 128 fn204_128 := ⟨lf Tryz.func204, ⟨lf Tryz.func332, trivial, trivial⟩, trivial⟩
theorem pfn76_64 : Tr.AllP QF 76 64 fn76_64 := ⟨lf Tryz.func76, pfn140_128, pfn204_128⟩
theorem pfn172_128 : Tr.AllP QF 172 128 fn172_128 := ⟨nf, ⟨lf Tryz.func300, trivial, trivial⟩, trivial⟩
theorem pfn108_64 : Tr.AllP QF 108 64 fn108_64 := ⟨nf, pfn172_128, trivial⟩
theorem pfn44_32 : Tr.AllP QF 44 32 fn44_32 := ⟨lf Tryz.func44, pfn76_64, pfn108_64⟩
theorem pfn220_128 : Tr.AllP QF 220 128 fn220_128 := ⟨lf Tryz.func220, ⟨lf Tryz.func348, trivial, trivial⟩, trivial⟩
theorem pfn92_64 : Tr.AllP QF 92 64 fn92_64 := ⟨lf Tryz.func92, ⟨lf Tryz.func156, trivial, trivial⟩, pfn220_128⟩
theorem pfn188_128 : Tr.AllP QF 188 128 fn188_128 := ⟨lf Tryz.func188, ⟨lf Tryz.func316, trivial, trivial⟩, trivial⟩
theorem pfn124_64 : Tr.AllP QF 124 64 fn124_64 := ⟨lf Tryz.func124, pfn188_128, ⟨lf Tryz.func252, trivial, trivial⟩⟩
theorem pfn60_32 : Tr.AllP QF 60 32 fn60_32 := ⟨nf, pfn92_64, pfn124_64⟩
theorem pfn28_16 : Tr.AllP QF 28 16 fn28_16 := ⟨lf Tryz.func28, pfn44_32, pfn60_32⟩
theorem pfn12_8 : Tr.AllP QF 12 8 fn12_8 := ⟨nf, pfn20_16, pfn28_16⟩
theorem pfn4_4 : Tr.AllP QF 4 4 fn4_4 := ⟨nf, pfn8_8, pfn12_8⟩
theorem pfn130_128 : Tr.AllP QF 130 128 fn130_128 := ⟨lf Tryz.func130, ⟨lf Tryz.func258, trivial, trivial⟩, trivial⟩
theorem pfn194_128 : Tr.AllP QF 194 128 fn194_128 := ⟨lf Tryz.func194, ⟨lf Tryz.func322, trivial, trivial⟩, trivial⟩
theorem pfn66_64 : Tr.AllP QF 66 64 fn66_64 := ⟨lf Tryz.func66, pfn130_128, pfn194_128⟩
theorem pfn98_64 : Tr.AllP QF 98 64 fn98_64 := ⟨nf, ⟨lf Tryz.func162, trivial, trivial⟩, ⟨lf Tryz.func226, trivial, trivial⟩⟩
theorem pfn34_32 : Tr.AllP QF 34 32 fn34_32 := ⟨lf Tryz.func34, pfn66_64, pfn98_64⟩
theorem pfn146_128 : Tr.AllP QF 146 128 fn146_128 := ⟨nf, ⟨lf Tryz.func274, trivial, trivial⟩, trivial⟩
theorem pfn210_128 : Tr.AllP QF 210 128 fn210_128 := ⟨lf Tryz.func210, ⟨lf Tryz.func338, trivial, trivial⟩, trivial⟩
theorem pfn82_64 : Tr.AllP QF 82 64 fn82_64 := ⟨lf Tryz.func82, pfn146_128, pfn210_128⟩
theorem pfn178_128 : Tr.AllP QF 178 128 fn178_128 := ⟨nf, ⟨lf Tryz.func306, trivial, trivial⟩, trivial⟩
theorem pfn114_64 : Tr.AllP QF 114 64 fn114_64 := ⟨nf, pfn178_128, trivial⟩
theorem pfn50_32 : Tr.AllP QF 50 32 fn50_32 := ⟨lf Tryz.func50, pfn82_64, pfn114_64⟩
theorem pfn18_16 : Tr.AllP QF 18 16 fn18_16 := ⟨nf, pfn34_32, pfn50_32⟩
theorem pfn74_64 : Tr.AllP QF 74 64 fn74_64 := ⟨lf Tryz.func74, ⟨lf Tryz.func138, trivial, trivial⟩, ⟨lf Tryz.func202, trivial, trivial⟩⟩
theorem pfn170_128 : Tr.AllP QF 170 128 fn170_128 := ⟨lf Tryz.func170, ⟨lf Tryz.func298, trivial, trivial⟩, trivial⟩
theorem pfn106_64 : Tr.AllP QF 106 64 fn106_64 := ⟨nf, pfn170_128, trivial⟩
theorem pfn42_32 : Tr.AllP QF 42 32 fn42_32 := ⟨nf, pfn74_64, pfn106_64⟩
theorem pfn218_128 : Tr.AllP QF 218 128 fn218_128 := ⟨nf, ⟨lf Tryz.func346, trivial, trivial⟩, trivial⟩
theorem pfn90_64 : Tr.AllP QF 90 64 fn90_64 := ⟨lf Tryz.func90, ⟨lf Tryz.func154, trivial, trivial⟩, pfn218_128⟩
theorem pfn122_64 : Tr.AllP QF 122 64 fn122_64 := ⟨lf Tryz.func122, trivial, ⟨lf Tryz.func250, trivial, trivial⟩⟩
theorem pfn58_32 : Tr.AllP QF 58 32 fn58_32 := ⟨nf, pfn90_64, pfn122_64⟩
theorem pfn26_16 : Tr.AllP QF 26 16 fn26_16 := ⟨lf Tryz.func26, pfn42_32, pfn58_32⟩
theorem pfn10_8 : Tr.AllP QF 10 8 fn10_8 := ⟨nf, pfn18_16, pfn26_16⟩
theorem pfn134_128 : Tr.AllP QF 134 128 fn134_128 := ⟨lf Tryz.func134, ⟨lf Tryz.func262, trivial, trivial⟩, trivial⟩
theorem pfn198_128 : Tr.AllP QF 198 128 fn198_128 := ⟨lf Tryz.func198, ⟨lf Tryz.func326, trivial, trivial⟩, trivial⟩
theorem pfn70_64 : Tr.AllP QF 70 64 fn70_64 := ⟨lf Tryz.func70, pfn134_128, pfn198_128⟩
theorem pfn102_64 : Tr.AllP QF 102 64 fn102_64 := ⟨nf, ⟨lf Tryz.func166, trivial, trivial⟩, trivial⟩
theorem pfn38_32 : Tr.AllP QF 38 32 fn38_32 := ⟨lf Tryz.func38, pfn70_64, pfn102_64⟩
theorem pfn86_64 : Tr.AllP QF 86 64 fn86_64 := ⟨lf Tryz.func86, ⟨lf Tryz.func150, trivial, trivial⟩, ⟨lf Tryz.func214, trivial, trivial⟩⟩
theorem pfn54_32 : Tr.AllP QF 54 32 fn54_32 := ⟨nf, pfn86_64, trivial⟩
theorem pfn22_16 : Tr.AllP QF 22 16 fn22_16 := ⟨lf Tryz.func22, pfn38_32, pfn54_32⟩
theorem pfn142_128 : Tr.AllP QF 142 128 fn142_128 := ⟨lf Tryz.func142, ⟨lf Tryz.func270, trivial, trivial⟩, trivial⟩
theorem pfn206_128 : Tr.AllP QF 206 128 fn206_128 := ⟨lf Tryz.func206, ⟨lf Tryz.func334, trivial, trivial⟩, trivial⟩
theorem pfn78_64 : Tr.AllP QF 78 64 fn78_64 := ⟨lf Tryz.func78, pfn142_128, pfn206_128⟩
theorem pfn174_128 : Tr.AllP QF 174 128 fn174_128 := ⟨nf, ⟨lf Tryz.func302, trivial, trivial⟩, trivial⟩
theorem pfn110_64 : Tr.AllP QF 110 64 fn110_64 := ⟨nf, pfn174_128, trivial⟩
theorem pfn46_32 : Tr.AllP QF 46 32 fn46_32 := ⟨lf Tryz.func46, pfn78_64, pfn110_64⟩
theorem pfn222_128 : Tr.AllP QF 222 128 fn222_128 := ⟨lf Tryz.func222, ⟨lf Tryz.func350, trivial, trivial⟩, trivial⟩
theorem pfn94_64 : Tr.AllP QF 94 64 fn94_64 := ⟨nf, ⟨lf Tryz.func158, trivial, trivial⟩, pfn222_128⟩
theorem pfn190_128 : Tr.AllP QF 190 128 fn190_128 := ⟨lf Tryz.func190, ⟨lf Tryz.func318, trivial, trivial⟩, trivial⟩
theorem pfn126_64 : Tr.AllP QF 126 64 fn126_64 := ⟨lf Tryz.func126, pfn190_128, ⟨lf Tryz.func254, trivial, trivial⟩⟩
theorem pfn62_32 : Tr.AllP QF 62 32 fn62_32 := ⟨lf Tryz.func62, pfn94_64, pfn126_64⟩
theorem pfn30_16 : Tr.AllP QF 30 16 fn30_16 := ⟨lf Tryz.func30, pfn46_32, pfn62_32⟩
theorem pfn14_8 : Tr.AllP QF 14 8 fn14_8 := ⟨lf Tryz.func14, pfn22_16, pfn30_16⟩
theorem pfn6_4 : Tr.AllP QF 6 4 fn6_4 := ⟨nf, pfn10_8, pfn14_8⟩
theorem pfn2_2 : Tr.AllP QF 2 2 fn2_2 := ⟨nf, pfn4_4, pfn6_4⟩
theorem pfn0_1 : Tr.AllP QF 0 1 fn0_1 := ⟨nf, pfn1_2, pfn2_2⟩
theorem ty127 : tiOf Tryz.prog 127 = some ti127 := by kernel_rfl
theorem ty319 : tiOf Tryz.prog 319 = some ti319 := by kernel_rfl
theorem ptn191_128 : Tr.AllP QT 191 128 tn191_128 := ⟨nf, ⟨lf ty319, trivial, trivial⟩, trivial⟩
theorem ptn63_64 : Tr.AllP QT 63 64 tn63_64 := ⟨nf, ⟨lf ty127, trivial, trivial⟩, ptn191_128⟩
theorem ty31 : tiOf Tryz.prog 31 = some ti31 := by kernel_rfl
theorem ptn31_32 : Tr.AllP QT 31 32 tn31_32 := ⟨lf ty31, ptn63_64, trivial⟩
theorem ty335 : tiOf Tryz.prog 335 = some ti335 := by kernel_rfl
theorem ty207 : tiOf Tryz.prog 207 = some ti207 := by kernel_rfl
theorem ptn207_128 : Tr.AllP QT 207 128 tn207_128 := ⟨lf ty207, ⟨lf ty335, trivial, trivial⟩, trivial⟩
theorem ptn79_64 : Tr.AllP QT 79 64 tn79_64 := ⟨nf, trivial, ptn207_128⟩
theorem ty111 : tiOf Tryz.prog 111 = some ti111 := by kernel_rfl
theorem ptn47_32 : Tr.AllP QT 47 32 tn47_32 := ⟨nf, ptn79_64, ⟨lf ty111, trivial, trivial⟩⟩
theorem ty15 : tiOf Tryz.prog 15 = some ti15 := by kernel_rfl
theorem ptn15_16 : Tr.AllP QT 15 16 tn15_16 := ⟨lf ty15, ptn31_32, ptn47_32⟩
theorem ty135 : tiOf Tryz.prog 135 = some ti135 := by kernel_rfl
theorem ty327 : tiOf Tryz.prog 327 = some ti327 := by kernel_rfl
theorem ptn199_128 : Tr.AllP QT 199 128 tn199_128 := ⟨nf, ⟨lf ty327, trivial, trivial⟩, trivial⟩
theorem ptn71_64 : Tr.AllP QT 71 64 tn71_64 := ⟨nf, ⟨lf ty135, trivial, trivial⟩, ptn199_128⟩
theorem ty167 : tiOf Tryz.prog 167 = some ti167 := by kernel_rfl
theorem ty231 : tiOf Tryz.prog 231 = some ti231 := by kernel_rfl
theorem ptn103_64 : Tr.AllP QT 103 64 tn103_64 := ⟨nf, ⟨lf ty167, trivial, trivial⟩, ⟨lf ty231, trivial, trivial⟩⟩
theorem ty39 : tiOf Tryz.prog 39 = some ti39 := by kernel_rfl
theorem ptn39_32 : Tr.AllP QT 39 32 tn39_32 := ⟨lf ty39, ptn71_64, ptn103_64⟩
theorem ty151 : tiOf Tryz.prog 151 = some ti151 := by kernel_rfl
theorem ty343 : tiOf Tryz.prog 343 = some ti343 := by kernel_rfl
theorem ty215 : tiOf Tryz.prog 215 = some ti215 := by kernel_rfl
theorem ptn215_128 : Tr.AllP QT 215 128 tn215_128 := ⟨lf ty215, ⟨lf ty343, trivial, trivial⟩, trivial⟩
theorem ptn87_64 : Tr.AllP QT 87 64 tn87_64 := ⟨nf, ⟨lf ty151, trivial, trivial⟩, ptn215_128⟩
theorem ty119 : tiOf Tryz.prog 119 = some ti119 := by kernel_rfl
theorem ptn55_32 : Tr.AllP QT 55 32 tn55_32 := ⟨nf, ptn87_64, ⟨lf ty119, trivial, trivial⟩⟩
theorem ty23 : tiOf Tryz.prog 23 = some ti23 := by kernel_rfl
theorem ptn23_16 : Tr.AllP QT 23 16 tn23_16 := ⟨lf ty23, ptn39_32, ptn55_32⟩
theorem ty7 : tiOf Tryz.prog 7 = some ti7 := by kernel_rfl
theorem ptn7_8 : Tr.AllP QT 7 8 tn7_8 := ⟨lf ty7, ptn15_16, ptn23_16⟩
theorem ty259 : tiOf Tryz.prog 259 = some ti259 := by kernel_rfl
theorem ty131 : tiOf Tryz.prog 131 = some ti131 := by kernel_rfl
theorem ptn131_128 : Tr.AllP QT 131 128 tn131_128 := ⟨lf ty131, ⟨lf ty259, trivial, trivial⟩, trivial⟩
theorem ptn67_64 : Tr.AllP QT 67 64 tn67_64 := ⟨nf, ptn131_128, trivial⟩
theorem ty163 : tiOf Tryz.prog 163 = some ti163 := by kernel_rfl
theorem ty355 : tiOf Tryz.prog 355 = some ti355 := by kernel_rfl
theorem ptn227_128 : Tr.AllP QT 227 128 tn227_128 := ⟨nf, ⟨lf ty355, trivial, trivial⟩, trivial⟩
theorem ptn99_64 : Tr.AllP QT 99 64 tn99_64 := ⟨nf, ⟨lf ty163, trivial, trivial⟩, ptn227_128⟩
theorem ty35 : tiOf Tryz.prog 35 = some ti35 := by kernel_rfl
theorem ptn35_32 : Tr.AllP QT 35 32 tn35_32 := ⟨lf ty35, ptn67_64, ptn99_64⟩
theorem ty211 : tiOf Tryz.prog 211 = some ti211 := by kernel_rfl
theorem ptn83_64 : Tr.AllP QT 83 64 tn83_64 := ⟨nf, trivial, ⟨lf ty211, trivial, trivial⟩⟩
theorem ty115 : tiOf Tryz.prog 115 = some ti115 := by kernel_rfl
theorem ptn51_32 : Tr.AllP QT 51 32 tn51_32 := ⟨nf, ptn83_64, ⟨lf ty115, trivial, trivial⟩⟩
theorem ty19 : tiOf Tryz.prog 19 = some ti19 := by kernel_rfl
theorem ptn19_16 : Tr.AllP QT 19 16 tn19_16 := ⟨lf ty19, ptn35_32, ptn51_32⟩
theorem ty203 : tiOf Tryz.prog 203 = some ti203 := by kernel_rfl
theorem ptn75_64 : Tr.AllP QT 75 64 tn75_64 := ⟨nf, trivial, ⟨lf ty203, trivial, trivial⟩⟩
theorem ty235 : tiOf Tryz.prog 235 = some ti235 := by kernel_rfl
theorem ptn107_64 : Tr.AllP QT 107 64 tn107_64 := ⟨nf, trivial, ⟨lf ty235, trivial, trivial⟩⟩
theorem ptn43_32 : Tr.AllP QT 43 32 tn43_32 := ⟨nf, ptn75_64, ptn107_64⟩
theorem ty347 : tiOf Tryz.prog 347 = some ti347 := by kernel_rfl
theorem ptn219_128 : Tr.AllP QT 219 128 tn219_128 := ⟨nf, ⟨lf ty347, trivial, trivial⟩, trivial⟩
theorem ty91 : tiOf Tryz.prog 91 = some ti91 := by kernel_rfl
theorem ptn91_64 : Tr.AllP QT 91 64 tn91_64 := ⟨lf ty91, trivial, ptn219_128⟩
theorem ty123 : tiOf Tryz.prog 123 = some ti123 := by kernel_rfl
theorem ptn59_32 : Tr.AllP QT 59 32 tn59_32 := ⟨nf, ptn91_64, ⟨lf ty123, trivial, trivial⟩⟩
theorem ty27 : tiOf Tryz.prog 27 = some ti27 := by kernel_rfl
theorem ptn27_16 : Tr.AllP QT 27 16 tn27_16 := ⟨lf ty27, ptn43_32, ptn59_32⟩
theorem ty11 : tiOf Tryz.prog 11 = some ti11 := by kernel_rfl
theorem ptn11_8 : Tr.AllP QT 11 8 tn11_8 := ⟨lf ty11, ptn19_16, ptn27_16⟩
theorem ty3 : tiOf Tryz.prog 3 = some ti3 := by kernel_rfl
theorem ptn3_4 : Tr.AllP QT 3 4 tn3_4 := ⟨lf ty3, ptn7_8, ptn11_8⟩
theorem ty65 : tiOf Tryz.prog 65 = some ti65 := by kernel_rfl
theorem ty353 : tiOf Tryz.prog 353 = some ti353 := by kernel_rfl
theorem ptn225_128 : Tr.AllP QT 225 128 tn225_128 := ⟨nf, ⟨lf ty353, trivial, trivial⟩, trivial⟩
theorem ty97 : tiOf Tryz.prog 97 = some ti97 := by kernel_rfl
theorem ptn97_64 : Tr.AllP QT 97 64 tn97_64 := ⟨lf ty97, trivial, ptn225_128⟩
theorem ty33 : tiOf Tryz.prog 33 = some ti33 := by kernel_rfl
theorem ptn33_32 : Tr.AllP QT 33 32 tn33_32 := ⟨lf ty33, ⟨lf ty65, trivial, trivial⟩, ptn97_64⟩
theorem ty337 : tiOf Tryz.prog 337 = some ti337 := by kernel_rfl
theorem ty209 : tiOf Tryz.prog 209 = some ti209 := by kernel_rfl
theorem ptn209_128 : Tr.AllP QT 209 128 tn209_128 := ⟨lf ty209, ⟨lf ty337, trivial, trivial⟩, trivial⟩
theorem ty81 : tiOf Tryz.prog 81 = some ti81 := by kernel_rfl
theorem ptn81_64 : Tr.AllP QT 81 64 tn81_64 := ⟨lf ty81, trivial, ptn209_128⟩
theorem ptn49_32 : Tr.AllP QT 49 32 tn49_32 := ⟨nf, ptn81_64, trivial⟩
theorem ty17 : tiOf Tryz.prog 17 = some ti17 := by kernel_rfl
theorem ptn17_16 : Tr.AllP QT 17 16 tn17_16 := ⟨lf ty17, ptn33_32, ptn49_32⟩
theorem ty233 : tiOf Tryz.prog 233 = some ti233 := by kernel_rfl
theorem ptn105_64 : Tr.AllP QT 105 64 tn105_64 := ⟨nf, trivial, ⟨lf ty233, trivial, trivial⟩⟩
theorem ty41 : tiOf Tryz.prog 41 = some ti41 := by kernel_rfl
theorem ptn41_32 : Tr.AllP QT 41 32 tn41_32 := ⟨lf ty41, trivial, ptn105_64⟩
theorem ty217 : tiOf Tryz.prog 217 = some ti217 := by kernel_rfl
theorem ty89 : tiOf Tryz.prog 89 = some ti89 := by kernel_rfl
theorem ptn89_64 : Tr.AllP QT 89 64 tn89_64 := ⟨lf ty89, trivial, ⟨lf ty217, trivial, trivial⟩⟩
theorem ty249 : tiOf Tryz.prog 249 = some ti249 := by kernel_rfl
theorem ptn121_64 : Tr.AllP QT 121 64 tn121_64 := ⟨nf, trivial, ⟨lf ty249, trivial, trivial⟩⟩
theorem ptn57_32 : Tr.AllP QT 57 32 tn57_32 := ⟨nf, ptn89_64, ptn121_64⟩
theorem ty25 : tiOf Tryz.prog 25 = some ti25 := by kernel_rfl
theorem ptn25_16 : Tr.AllP QT 25 16 tn25_16 := ⟨lf ty25, ptn41_32, ptn57_32⟩
theorem ty9 : tiOf Tryz.prog 9 = some ti9 := by kernel_rfl
theorem ptn9_8 : Tr.AllP QT 9 8 tn9_8 := ⟨lf ty9, ptn17_16, ptn25_16⟩
theorem ty325 : tiOf Tryz.prog 325 = some ti325 := by kernel_rfl
theorem ptn197_128 : Tr.AllP QT 197 128 tn197_128 := ⟨nf, ⟨lf ty325, trivial, trivial⟩, trivial⟩
theorem ptn69_64 : Tr.AllP QT 69 64 tn69_64 := ⟨nf, trivial, ptn197_128⟩
theorem ty165 : tiOf Tryz.prog 165 = some ti165 := by kernel_rfl
theorem ptn101_64 : Tr.AllP QT 101 64 tn101_64 := ⟨nf, ⟨lf ty165, trivial, trivial⟩, trivial⟩
theorem ty37 : tiOf Tryz.prog 37 = some ti37 := by kernel_rfl
theorem ptn37_32 : Tr.AllP QT 37 32 tn37_32 := ⟨lf ty37, ptn69_64, ptn101_64⟩
theorem ty277 : tiOf Tryz.prog 277 = some ti277 := by kernel_rfl
theorem ptn149_128 : Tr.AllP QT 149 128 tn149_128 := ⟨nf, ⟨lf ty277, trivial, trivial⟩, trivial⟩
theorem ptn85_64 : Tr.AllP QT 85 64 tn85_64 := ⟨nf, ptn149_128, trivial⟩
theorem ty117 : tiOf Tryz.prog 117 = some ti117 := by kernel_rfl
theorem ty53 : tiOf Tryz.prog 53 = some ti53 := by kernel_rfl
theorem ptn53_32 : Tr.AllP QT 53 32 tn53_32 := ⟨lf ty53, ptn85_64, ⟨lf ty117, trivial, trivial⟩⟩
theorem ty21 : tiOf Tryz.prog 21 = some ti21 := by kernel_rfl
theorem ptn21_16 : Tr.AllP QT 21 16 tn21_16 := ⟨lf ty21, ptn37_32, ptn53_32⟩
theorem ty141 : tiOf Tryz.prog 141 = some ti141 := by kernel_rfl
theorem ty77 : tiOf Tryz.prog 77 = some ti77 := by kernel_rfl
theorem ptn77_64 : Tr.AllP QT 77 64 tn77_64 := ⟨lf ty77, ⟨lf ty141, trivial, trivial⟩, trivial⟩
theorem ty109 : tiOf Tryz.prog 109 = some ti109 := by kernel_rfl
theorem ptn45_32 : Tr.AllP QT 45 32 tn45_32 := ⟨nf, ptn77_64, ⟨lf ty109, trivial, trivial⟩⟩
theorem ty157 : tiOf Tryz.prog 157 = some ti157 := by kernel_rfl
theorem ty221 : tiOf Tryz.prog 221 = some ti221 := by kernel_rfl
theorem ty93 : tiOf Tryz.prog 93 = some ti93 := by kernel_rfl
theorem ptn93_64 : Tr.AllP QT 93 64 tn93_64 := ⟨lf ty93, ⟨lf ty157, trivial, trivial⟩, ⟨lf ty221, trivial, trivial⟩⟩
theorem ty317 : tiOf Tryz.prog 317 = some ti317 := by kernel_rfl
theorem ptn189_128 : Tr.AllP QT 189 128 tn189_128 := ⟨nf, ⟨lf ty317, trivial, trivial⟩, trivial⟩
theorem ty253 : tiOf Tryz.prog 253 = some ti253 := by kernel_rfl
theorem ty125 : tiOf Tryz.prog 125 = some ti125 := by kernel_rfl
theorem ptn125_64 : Tr.AllP QT 125 64 tn125_64 := ⟨lf ty125, ptn189_128, ⟨lf ty253, trivial, trivial⟩⟩
theorem ty61 : tiOf Tryz.prog 61 = some ti61 := by kernel_rfl
theorem ptn61_32 : Tr.AllP QT 61 32 tn61_32 := ⟨lf ty61, ptn93_64, ptn125_64⟩
theorem ty29 : tiOf Tryz.prog 29 = some ti29 := by kernel_rfl
theorem ptn29_16 : Tr.AllP QT 29 16 tn29_16 := ⟨lf ty29, ptn45_32, ptn61_32⟩
theorem ty13 : tiOf Tryz.prog 13 = some ti13 := by kernel_rfl
theorem ptn13_8 : Tr.AllP QT 13 8 tn13_8 := ⟨lf ty13, ptn21_16, ptn29_16⟩
theorem ty5 : tiOf Tryz.prog 5 = some ti5 := by kernel_rfl
theorem ptn5_4 : Tr.AllP QT 5 4 tn5_4 := ⟨lf ty5, ptn9_8, ptn13_8⟩
theorem ty1 : tiOf Tryz.prog 1 = some ti1 := by kernel_rfl
theorem ptn1_2 : Tr.AllP QT 1 2 tn1_2 := ⟨lf ty1, ptn3_4, ptn5_4⟩
theorem ty128 : tiOf Tryz.prog 128 = some ti128 := by kernel_rfl
theorem ty64 : tiOf Tryz.prog 64 = some ti64 := by kernel_rfl
theorem ptn64_64 : Tr.AllP QT 64 64 tn64_64 := ⟨lf ty64, ⟨lf ty128, trivial, trivial⟩, trivial⟩
theorem ty160 : tiOf Tryz.prog 160 = some ti160 := by kernel_rfl
theorem ty352 : tiOf Tryz.prog 352 = some ti352 := by kernel_rfl
theorem ty224 : tiOf Tryz.prog 224 = some ti224 := by kernel_rfl
theorem ptn224_128 : Tr.AllP QT 224 128 tn224_128 := ⟨lf ty224, ⟨lf ty352, trivial, trivial⟩, trivial⟩
theorem ptn96_64 : Tr.AllP QT 96 64 tn96_64 := ⟨nf, ⟨lf ty160, trivial, trivial⟩, ptn224_128⟩
theorem ty32 : tiOf Tryz.prog 32 = some ti32 := by kernel_rfl
theorem ptn32_32 : Tr.AllP QT 32 32 tn32_32 := ⟨lf ty32, ptn64_64, ptn96_64⟩
theorem ty144 : tiOf Tryz.prog 144 = some ti144 := by kernel_rfl
theorem ty336 : tiOf Tryz.prog 336 = some ti336 := by kernel_rfl
theorem ty208 : tiOf Tryz.prog 208 = some ti208 := by kernel_rfl
theorem ptn208_128 : Tr.AllP QT 208 128 tn208_128 := ⟨lf ty208, ⟨lf ty336, trivial, trivial⟩, trivial⟩
theorem ptn80_64 : Tr.AllP QT 80 64 tn80_64 := ⟨nf, ⟨lf ty144, trivial, trivial⟩, ptn208_128⟩
theorem ptn48_32 : Tr.AllP QT 48 32 tn48_32 := ⟨nf, ptn80_64, trivial⟩
theorem ty16 : tiOf Tryz.prog 16 = some ti16 := by kernel_rfl
theorem ptn16_16 : Tr.AllP QT 16 16 tn16_16 := ⟨lf ty16, ptn32_32, ptn48_32⟩
theorem ty136 : tiOf Tryz.prog 136 = some ti136 := by kernel_rfl
theorem ty328 : tiOf Tryz.prog 328 = some ti328 := by kernel_rfl
theorem ptn200_128 : Tr.AllP QT 200 128 tn200_128 := ⟨nf, ⟨lf ty328, trivial, trivial⟩, trivial⟩
theorem ty72 : tiOf Tryz.prog 72 = some ti72 := by kernel_rfl
theorem ptn72_64 : Tr.AllP QT 72 64 tn72_64 := ⟨lf ty72, ⟨lf ty136, trivial, trivial⟩, ptn200_128⟩
theorem ty168 : tiOf Tryz.prog 168 = some ti168 := by kernel_rfl
theorem ty232 : tiOf Tryz.prog 232 = some ti232 := by kernel_rfl
theorem ptn104_64 : Tr.AllP QT 104 64 tn104_64 := ⟨nf, ⟨lf ty168, trivial, trivial⟩, ⟨lf ty232, trivial, trivial⟩⟩
theorem ty40 : tiOf Tryz.prog 40 = some ti40 := by kernel_rfl
theorem ptn40_32 : Tr.AllP QT 40 32 tn40_32 := ⟨lf ty40, ptn72_64, ptn104_64⟩
theorem ty344 : tiOf Tryz.prog 344 = some ti344 := by kernel_rfl
theorem ty216 : tiOf Tryz.prog 216 = some ti216 := by kernel_rfl
theorem ptn216_128 : Tr.AllP QT 216 128 tn216_128 := ⟨lf ty216, ⟨lf ty344, trivial, trivial⟩, trivial⟩
theorem ptn88_64 : Tr.AllP QT 88 64 tn88_64 := ⟨nf, trivial, ptn216_128⟩
theorem ty312 : tiOf Tryz.prog 312 = some ti312 := by kernel_rfl
theorem ptn184_128 : Tr.AllP QT 184 128 tn184_128 := ⟨nf, ⟨lf ty312, trivial, trivial⟩, trivial⟩
theorem ptn120_64 : Tr.AllP QT 120 64 tn120_64 := ⟨nf, ptn184_128, trivial⟩
theorem ptn56_32 : Tr.AllP QT 56 32 tn56_32 := ⟨nf, ptn88_64, ptn120_64⟩
theorem ty24 : tiOf Tryz.prog 24 = some ti24 := by kernel_rfl
theorem ptn24_16 : Tr.AllP QT 24 16 tn24_16 := ⟨lf ty24, ptn40_32, ptn56_32⟩
theorem ty8 : tiOf Tryz.prog 8 = some ti8 := by kernel_rfl
theorem ptn8_8 : Tr.AllP QT 8 8 tn8_8 := ⟨lf ty8, ptn16_16, ptn24_16⟩
theorem ty132 : tiOf Tryz.prog 132 = some ti132 := by kernel_rfl
theorem ptn68_64 : Tr.AllP QT 68 64 tn68_64 := ⟨nf, ⟨lf ty132, trivial, trivial⟩, trivial⟩
theorem ty164 : tiOf Tryz.prog 164 = some ti164 := by kernel_rfl
theorem ty356 : tiOf Tryz.prog 356 = some ti356 := by kernel_rfl
theorem ptn228_128 : Tr.AllP QT 228 128 tn228_128 := ⟨nf, ⟨lf ty356, trivial, trivial⟩, trivial⟩
theorem ptn100_64 : Tr.AllP QT 100 64 tn100_64 := ⟨nf, ⟨lf ty164, trivial, trivial⟩, ptn228_128⟩
theorem ptn36_32 : Tr.AllP QT 36 32 tn36_32 := ⟨nf, ptn68_64, ptn100_64⟩
theorem ty308 : tiOf Tryz.prog 308 = some ti308 := by kernel_rfl
theorem ptn180_128 : Tr.AllP QT 180 128 tn180_128 := ⟨nf, ⟨lf ty308, trivial, trivial⟩, trivial⟩
theorem ptn116_64 : Tr.AllP QT 116 64 tn116_64 := ⟨nf, ptn180_128, trivial⟩
theorem ptn52_32 : Tr.AllP QT 52 32 tn52_32 := ⟨nf, trivial, ptn116_64⟩
theorem ty20 : tiOf Tryz.prog 20 = some ti20 := by kernel_rfl
theorem ptn20_16 : Tr.AllP QT 20 16 tn20_16 := ⟨lf ty20, ptn36_32, ptn52_32⟩
theorem ty172 : tiOf Tryz.prog 172 = some ti172 := by kernel_rfl
theorem ptn108_64 : Tr.AllP QT 108 64 tn108_64 := ⟨nf, ⟨lf ty172, trivial, trivial⟩, trivial⟩
theorem ty44 : tiOf Tryz.prog 44 = some ti44 := by kernel_rfl
theorem ptn44_32 : Tr.AllP QT 44 32 tn44_32 := ⟨lf ty44, trivial, ptn108_64⟩
theorem ty284 : tiOf Tryz.prog 284 = some ti284 := by kernel_rfl
theorem ty156 : tiOf Tryz.prog 156 = some ti156 := by kernel_rfl
theorem ptn156_128 : Tr.AllP QT 156 128 tn156_128 := ⟨lf ty156, ⟨lf ty284, trivial, trivial⟩, trivial⟩
theorem ty348 : tiOf Tryz.prog 348 = some ti348 := by kernel_rfl
theorem ty220 : tiOf Tryz.prog 220 = some ti220 := by kernel_rfl
theorem ptn220_128 : Tr.AllP QT 220 128 tn220_128 := ⟨lf ty220, ⟨lf ty348, trivial, trivial⟩, trivial⟩
theorem ptn92_64 : Tr.AllP QT 92 64 tn92_64 := ⟨nf, ptn156_128, ptn220_128⟩
theorem ty252 : tiOf Tryz.prog 252 = some ti252 := by kernel_rfl
theorem ptn124_64 : Tr.AllP QT 124 64 tn124_64 := ⟨nf, trivial, ⟨lf ty252, trivial, trivial⟩⟩
theorem ptn60_32 : Tr.AllP QT 60 32 tn60_32 := ⟨nf, ptn92_64, ptn124_64⟩
theorem ty28 : tiOf Tryz.prog 28 = some ti28 := by kernel_rfl
theorem ptn28_16 : Tr.AllP QT 28 16 tn28_16 := ⟨lf ty28, ptn44_32, ptn60_32⟩
theorem ty12 : tiOf Tryz.prog 12 = some ti12 := by kernel_rfl
theorem ptn12_8 : Tr.AllP QT 12 8 tn12_8 := ⟨lf ty12, ptn20_16, ptn28_16⟩
theorem ty4 : tiOf Tryz.prog 4 = some ti4 := by kernel_rfl
theorem ptn4_4 : Tr.AllP QT 4 4 tn4_4 := ⟨lf ty4, ptn8_8, ptn12_8⟩
theorem ty162 : tiOf Tryz.prog 162 = some ti162 := by kernel_rfl
theorem ty354 : tiOf Tryz.prog 354 = some ti354 := by kernel_rfl
theorem ptn226_128 : Tr.AllP QT 226 128 tn226_128 := ⟨nf, ⟨lf ty354, trivial, trivial⟩, trivial⟩
theorem ptn98_64 : Tr.AllP QT 98 64 tn98_64 := ⟨nf, ⟨lf ty162, trivial, trivial⟩, ptn226_128⟩
theorem ty34 : tiOf Tryz.prog 34 = some ti34 := by kernel_rfl
theorem ptn34_32 : Tr.AllP QT 34 32 tn34_32 := ⟨lf ty34, trivial, ptn98_64⟩
theorem ty114 : tiOf Tryz.prog 114 = some ti114 := by kernel_rfl
theorem ptn50_32 : Tr.AllP QT 50 32 tn50_32 := ⟨nf, trivial, ⟨lf ty114, trivial, trivial⟩⟩
theorem ty18 : tiOf Tryz.prog 18 = some ti18 := by kernel_rfl
theorem ptn18_16 : Tr.AllP QT 18 16 tn18_16 := ⟨lf ty18, ptn34_32, ptn50_32⟩
theorem ty138 : tiOf Tryz.prog 138 = some ti138 := by kernel_rfl
theorem ty202 : tiOf Tryz.prog 202 = some ti202 := by kernel_rfl
theorem ty74 : tiOf Tryz.prog 74 = some ti74 := by kernel_rfl
theorem ptn74_64 : Tr.AllP QT 74 64 tn74_64 := ⟨lf ty74, ⟨lf ty138, trivial, trivial⟩, ⟨lf ty202, trivial, trivial⟩⟩
theorem ty170 : tiOf Tryz.prog 170 = some ti170 := by kernel_rfl
theorem ptn106_64 : Tr.AllP QT 106 64 tn106_64 := ⟨nf, ⟨lf ty170, trivial, trivial⟩, trivial⟩
theorem ty42 : tiOf Tryz.prog 42 = some ti42 := by kernel_rfl
theorem ptn42_32 : Tr.AllP QT 42 32 tn42_32 := ⟨lf ty42, ptn74_64, ptn106_64⟩
theorem ty282 : tiOf Tryz.prog 282 = some ti282 := by kernel_rfl
theorem ptn154_128 : Tr.AllP QT 154 128 tn154_128 := ⟨nf, ⟨lf ty282, trivial, trivial⟩, trivial⟩
theorem ty218 : tiOf Tryz.prog 218 = some ti218 := by kernel_rfl
theorem ty90 : tiOf Tryz.prog 90 = some ti90 := by kernel_rfl
theorem ptn90_64 : Tr.AllP QT 90 64 tn90_64 := ⟨lf ty90, ptn154_128, ⟨lf ty218, trivial, trivial⟩⟩
theorem ty58 : tiOf Tryz.prog 58 = some ti58 := by kernel_rfl
theorem ptn58_32 : Tr.AllP QT 58 32 tn58_32 := ⟨lf ty58, ptn90_64, trivial⟩
theorem ty26 : tiOf Tryz.prog 26 = some ti26 := by kernel_rfl
theorem ptn26_16 : Tr.AllP QT 26 16 tn26_16 := ⟨lf ty26, ptn42_32, ptn58_32⟩
theorem ty10 : tiOf Tryz.prog 10 = some ti10 := by kernel_rfl
theorem ptn10_8 : Tr.AllP QT 10 8 tn10_8 := ⟨lf ty10, ptn18_16, ptn26_16⟩
theorem ty326 : tiOf Tryz.prog 326 = some ti326 := by kernel_rfl
theorem ptn198_128 : Tr.AllP QT 198 128 tn198_128 := ⟨nf, ⟨lf ty326, trivial, trivial⟩, trivial⟩
theorem ptn70_64 : Tr.AllP QT 70 64 tn70_64 := ⟨nf, trivial, ptn198_128⟩
theorem ty166 : tiOf Tryz.prog 166 = some ti166 := by kernel_rfl
theorem ty358 : tiOf Tryz.prog 358 = some ti358 := by kernel_rfl
theorem ptn230_128 : Tr.AllP QT 230 128 tn230_128 := ⟨nf, ⟨lf ty358, trivial, trivial⟩, trivial⟩
theorem ptn102_64 : Tr.AllP QT 102 64 tn102_64 := ⟨nf, ⟨lf ty166, trivial, trivial⟩, ptn230_128⟩
theorem ty38 : tiOf Tryz.prog 38 = some ti38 := by kernel_rfl
theorem ptn38_32 : Tr.AllP QT 38 32 tn38_32 := ⟨lf ty38, ptn70_64, ptn102_64⟩
theorem ty278 : tiOf Tryz.prog 278 = some ti278 := by kernel_rfl
theorem ty150 : tiOf Tryz.prog 150 = some ti150 := by kernel_rfl
theorem ptn150_128 : Tr.AllP QT 150 128 tn150_128 := ⟨lf ty150, ⟨lf ty278, trivial, trivial⟩, trivial⟩
theorem ty214 : tiOf Tryz.prog 214 = some ti214 := by kernel_rfl
theorem ty86 : tiOf Tryz.prog 86 = some ti86 := by kernel_rfl
theorem ptn86_64 : Tr.AllP QT 86 64 tn86_64 := ⟨lf ty86, ptn150_128, ⟨lf ty214, trivial, trivial⟩⟩
theorem ptn54_32 : Tr.AllP QT 54 32 tn54_32 := ⟨nf, ptn86_64, trivial⟩
theorem ty22 : tiOf Tryz.prog 22 = some ti22 := by kernel_rfl
theorem ptn22_16 : Tr.AllP QT 22 16 tn22_16 := ⟨lf ty22, ptn38_32, ptn54_32⟩
theorem ty142 : tiOf Tryz.prog 142 = some ti142 := by kernel_rfl
theorem ty334 : tiOf Tryz.prog 334 = some ti334 := by kernel_rfl
theorem ty206 : tiOf Tryz.prog 206 = some ti206 := by kernel_rfl
theorem ptn206_128 : Tr.AllP QT 206 128 tn206_128 := ⟨lf ty206, ⟨lf ty334, trivial, trivial⟩, trivial⟩
theorem ptn78_64 : Tr.AllP QT 78 64 tn78_64 := ⟨nf, ⟨lf ty142, trivial, trivial⟩, ptn206_128⟩
theorem ptn46_32 : Tr.AllP QT 46 32 tn46_32 := ⟨nf, ptn78_64, trivial⟩
theorem ty158 : tiOf Tryz.prog 158 = some ti158 := by kernel_rfl
theorem ty222 : tiOf Tryz.prog 222 = some ti222 := by kernel_rfl
theorem ty94 : tiOf Tryz.prog 94 = some ti94 := by kernel_rfl
theorem ptn94_64 : Tr.AllP QT 94 64 tn94_64 := ⟨lf ty94, ⟨lf ty158, trivial, trivial⟩, ⟨lf ty222, trivial, trivial⟩⟩
theorem ty62 : tiOf Tryz.prog 62 = some ti62 := by kernel_rfl
theorem ptn62_32 : Tr.AllP QT 62 32 tn62_32 := ⟨lf ty62, ptn94_64, trivial⟩
theorem ty30 : tiOf Tryz.prog 30 = some ti30 := by kernel_rfl
theorem ptn30_16 : Tr.AllP QT 30 16 tn30_16 := ⟨lf ty30, ptn46_32, ptn62_32⟩
theorem ty14 : tiOf Tryz.prog 14 = some ti14 := by kernel_rfl
theorem ptn14_8 : Tr.AllP QT 14 8 tn14_8 := ⟨lf ty14, ptn22_16, ptn30_16⟩
theorem ty6 : tiOf Tryz.prog 6 = some ti6 := by kernel_rfl
theorem ptn6_4 : Tr.AllP QT 6 4 tn6_4 := ⟨lf ty6, ptn10_8, ptn14_8⟩
theorem ty2 : tiOf Tryz.prog 2 = some ti2 := by kernel_rfl
theorem ptn2_2 : Tr.AllP QT 2 2 tn2_2 := ⟨lf ty2, ptn4_4, ptn6_4⟩
theorem ptn0_1 : Tr.AllP QT 0 1 tn0_1 := ⟨nf, ptn1_2, ptn2_2⟩
theorem fn_ok (f : FuncId) (fn : Func) (h : funcT.get f = some fn) : Tryz.prog.funcs[f]? = some fn := Tr.AllP_get (Q := QF) pfn0_1 h
theorem c_ok : COk ctx := fun t ti h => tiOf_spec (Tr.AllP_get (Q := QT) ptn0_1 h)
theorem eq_fault : eqOf Tryz.prog 35 = some [.int .i64, .int .i64, .int .i64] := by kernel_rfl
theorem e_ok : EOk ctx := fun t ks h => by
  have h : eqT t = some ks := h
  unfold eqT at h
  cases hb : Nat.beq t 35 with
  | true =>
    rw [hb] at h
    have := Nat.eq_of_beq_eq_true hb
    subst this
    cases h
    exact eqOf_spec eq_fault
  | false => rw [hb] at h; cases h
theorem names_ok : PlainNames ctx := plainNames (P := Tryz.prog) (by kernel_rfl)
theorem mixed_ok : ctx.P.follows .mixedOrders = true := by kernel_rfl
theorem noEscape (v : Value) (w : World) : (callFunc 266 #[v]).run ctx.P w = .ok (.value v) w := by kernel_rfl
def Xo (f : FuncId) (xs : List AV) (v : AV) : Prop := f = 266 ∧ xs = [v]
def Or (_ : FuncId) (_ : List AV) (_ : Hp) (_ : AV) (_ : Hp) : Prop := False
theorem sound : Sound ctx Or Xo := ⟨c_ok, e_ok, names_ok, mixed_ok, fun _ _ _ _ _ h => h.elim, fun f xs v h => by
  obtain ⟨rfl, rfl⟩ := h
  exact snd_id (C := ctx) (f := 266) noEscape v⟩
theorem ext_ok (f : FuncId) (xs : List AV) (v : AV) (h : extOf f xs = some v) : Xo f xs v := by
  unfold extOf at h
  cases hb : Nat.beq f 266 with
  | true =>
    rw [hb] at h
    have := Nat.eq_of_beq_eq_true hb
    subst this
    simp only [cond_true] at h
    split at h
    · cases h; exact ⟨rfl, rfl⟩
    · cases h
  | false => rw [hb] at h; cases h
theorem dfr_ok0 : Deferring ctx 62 Tryz.f62 dfrA dfrB 5 119 #[.tmp 2, .tmp 3] := by
  refine ⟨Tryz.func62, ⟨_, _, _, _, _, _, _, _, rfl⟩, by rw [Tryz.ntmps62]; decide, Tryz.f119, 5, 2, 6, 7, _, _, _, _, _, _, _, _, _, _, _, _, _, _, _, 20, _, ti20, _, Tryz.func119, rfl, by rw [Tryz.ntmps119]; decide, by rw [Tryz.ntmps119]; decide, by rw [Tryz.ntmps119]; decide, by rw [Tryz.ntmps119]; decide, by kernel_rfl, rfl, rfl⟩
theorem dfr_ok (f : FuncId) (fn : Func) (c0 c1 : Code) (d : Nat) (g : FuncId) (cap : Array Operand) (hf : funcT.get f = some fn) (h : dfrOf f = some (c0, c1, d, g, cap)) : Deferring ctx f fn c0 c1 d g cap := by
  unfold dfrOf at h
  cases hb : Nat.beq f 62 with
  | true =>
    rw [hb] at h
    have := Nat.eq_of_beq_eq_true hb
    subst this
    cases h
    have := (fn_ok _ _ hf).symm.trans Tryz.func62
    cases this
    exact dfr_ok0
  | false => rw [hb] at h; cases h
theorem kit_ok0 (kn : FuncId → List AV → Option AV) (h : ∀ f args v, kn f args = some v → (allD args).isSome = true ∧ deepV v = true ∧ ∃ h₀, Big ctx Or Xo (.call f args .empty) (.ret v h₀)) : KitOk0 (kit kn) Or Xo :=
  ⟨fn_ok, ext_ok, h, fun f fn c0 c1 d g cap h1 h2 => dfr_ok f fn c0 c1 d g cap h1 h2⟩
theorem kit_ok (kn : FuncId → List AV → Option AV) (h : ∀ f args v, kn f args = some v → (allD args).isSome = true ∧ deepV v = true ∧ ∃ h₀, Big ctx Or Xo (.call f args .empty) (.ret v h₀)) : KitOk (kit kn) Or Xo (chk0 ctx) := kitOk (kit_ok0 kn h)
end Go.Dv.K
